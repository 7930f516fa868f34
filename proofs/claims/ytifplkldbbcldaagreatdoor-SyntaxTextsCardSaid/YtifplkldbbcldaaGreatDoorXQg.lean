/- The tokens of formatted texts, in plain data: the pieces. The tokens of formatted texts, in plain data: types, expressions, programs. The tokens of formatted programs, in plain data. Conditions: none. -/
import Derived.Test.YtifplkldbbcldaaGreatDoorXQb
set_option linter.unusedSimpArgs false
set_option linter.unusedVariables false
set_option maxRecDepth 4000
set_option maxHeartbeats 8000000
open List renaming append_assoc→AS,cons_append→AX,nil_append→A6,takeWhile_cons→Ev,mem_cons_self→A9,mem_cons_of_mem→Ae,contains_eq_mem→D4,all_eq_true→A4,mem_cons→By,append_nil→A1,mem_singleton→Fa,mem_append→BP,length_drop→Ah,length_cons→AD,map_cons→AE,map_nil→AH,map_append→Bc
open Bool renaming or_eq_true→BJ,and_eq_true→AK,or_eq_false_iff→Jb,not_eq_true'→Dy,or_true→NH
open Option renaming bind_some→BZ,isSome_iff_exists→Ul
open Except.ok renaming injEq→GH
open Prod.mk renaming injEq→BW
namespace Go.Ab
abbrev KT:=Int×Str
def Me:Str→Bool
 |[]=>true
 |b::_=>[10,32,40,41,44,59].contains b
def NK (s:Str) (ks:List KT) (rest:Str):Prop:=∀n i acc,(s++rest).length < n→∃n' i' acc',strip acc'=strip acc++ks∧rest.length < n'∧EB n (s++rest) i acc=EB n' rest i' acc'
def E6 (s:Str) (ks:List KT):Prop:=∀rest,Me rest=true→NK s ks rest
def Fw (s:Str) (ks:List KT):Prop:=∀rest,NK s ks rest
theorem NK.trans {s1 s2:Str} {k1 k2:List KT} {rest:Str} (h1:NK s1 k1 (s2++rest)) (h2:NK s2 k2 rest):NK (s1++s2) (k1++k2) rest:=fun n i acc hn=>by
 rw [AS] at hn ⊢
 obtain ⟨n1,i1,a1,e1,l1,g1⟩:=h1 n i acc hn
 obtain ⟨n2,i2,a2,e2,l2,g2⟩:=h2 n1 i1 a1 l1
 exact ⟨n2,i2,a2,by rw [e2,e1,AS],l2,by rw [g1,g2]⟩
theorem NK.nil (rest:Str):NK [] [] rest:=fun n i acc hn=>⟨n,i,acc,by simp,hn,rfl⟩
theorem Fw.s {s:Str} {ks:List KT} (h:Fw s ks):E6 s ks:=fun r _=>h r
theorem Fw.nil:Fw [] []:=NK.nil
theorem Fw.a {s1 s2:Str} {k1 k2:List KT} (h1:Fw s1 k1) (h2:Fw s2 k2):Fw (s1++s2) (k1++k2):=fun r=>(h1 _).trans (h2 r)
theorem Fw.ss {s1 s2:Str} {k1 k2:List KT} (h1:Fw s1 k1) (h2:E6 s2 k2):E6 (s1++s2) (k1++k2):=fun r hr=>(h1 _).trans (h2 r hr)
theorem Wd {s r:Str} (h:Me s=true) (hn:s≠[]):Me (s++r)=true:=by
 cases s with
 |nil=>exact absurd rfl hn
 |cons b l=>exact h
theorem E6.a {s1 s2:Str} {k1 k2:List KT} (h1:E6 s1 k1) (hs:Me s2=true) (hn:s2≠[]) (h2:Fw s2 k2):Fw (s1++s2) (k1++k2):=fun r=>(h1 _ (Wd hs hn)).trans (h2 r)
theorem E6.ss {s1 s2:Str} {k1 k2:List KT} (h1:E6 s1 k1) (hs:Me s2=true) (h2:E6 s2 k2):E6 (s1++s2) (k1++k2):=fun r hr=>by
 by_cases hn:s2=[]
 · subst hn;exact (h1 _ hr).trans (h2 r hr)
 · exact (h1 _ (Wd hs hn)).trans (h2 r hr)
theorem Y7 {s rest:Str} {k:Int} (hs:Ee (s++rest)= .ok (k,s)) (hb:∀b l,s=b::l→Un b.toNat=false∧(b==35)=false):NK s [(k,s)] rest:=fun n i acc hn=>by
 have hl:=(Qj hs).1
 cases s with
 |nil=>simp at hl
 |cons b l=>
  obtain ⟨h1,h2⟩:=hb b l rfl
  cases n with
  |zero=>omega
  |succ n=>
   refine ⟨n,i+(b::l).length,acc++[⟨k,b::l,i⟩],by simp [strip],by simp at hn ⊢;omega,?_⟩
   rw [AX] at hs ⊢
   rw [EB,if_neg (by rw [h1];decide),if_neg (by rw [h2];decide),hs]
   simp only
   rw [← AX,List.drop_left]
theorem Xl {b:UInt8} (hb:Un b.toNat=true):Fw [b] []:=fun rest n i acc hn=>by
 cases n with
 |zero=>omega
 |succ n=>exact ⟨n,i+1,acc,by simp,by simp at hn;omega,by rw [AX,A6,EB,if_pos hb]⟩
theorem H7:Fw [32] []:=Xl (by decide)
theorem sY:Fw [10] []:=Xl (by decide)
theorem Yt {p:UInt8→Bool} {s rest:Str} (h:∀x∈s,p x=true) (hr:∀b l,rest=b::l→p b=false):(s++rest).takeWhile p=s:=by
 induction s with
 |nil=>
  cases rest with
  |nil=>rfl
  |cons b l=>rw [A6,Ev,hr b l rfl];rfl
 |cons x s ih=>rw [AX,Ev,h x (A9 ..),if_pos rfl,ih (fun y hy=>h y (Ae _ hy))]
theorem nA {rest:Str} (h:Me rest=true):∀b l,rest=b::l→Ej M6 b=false:=by
 rintro b l rfl
 have:∀c∈([10,32,40,41,44,59]:Str),Ej M6 c=false:=by decide
 exact this b (by simpa [Me,D4] using h)
theorem mZ {rest:Str} (h:Me rest=true):∀b l,rest=b::l→Ej Hv b=false:=by
 rintro b l rfl
 have:∀c∈([10,32,40,41,44,59]:Str),Ej Hv c=false:=by decide
 exact this b (by simpa [Me,D4] using h)
theorem WA {b:UInt8} {r:Str} (hlu:(P1 b.toNat||OB b.toNat)=true) (hw:∀x∈b::r,Ej M6 x=true) (hl:(b::r).length≤24):E6 (b::r) [(if OB b.toNat then 2 else if TR (b::r) then 4 else 1,b::r)]:=fun rest hr=>by
 refine Y7 ?_ (fun c l e=>?_)
 · have ht:=Yt hw (nA hr)
   rw [AX] at ht ⊢
   rw [Ee,if_pos hlu,ht,if_neg (by simp only [decide_eq_true_eq];omega)]
   split
   · rfl
   · split<;>rfl
 · cases e
   simp only [P1,OB,BJ,AK,decide_eq_true_eq] at hlu
   refine ⟨?_,?_⟩
   · simp only [Un,Jb]
     refine ⟨⟨⟨?_,?_⟩,?_⟩,?_⟩<;>(apply j1;omega)
   · cases hb:(b==35) with
     |false=>rfl
     |true=>
      rw [beq_iff_eq] at hb;subst hb
      exfalso
      rcases hlu with h|h
      · have:=h.1;revert this;decide
      · have:=h.1;revert this;decide
theorem MD {s:Str} (h:Gr s=true):E6 s [(1,s)]:=by
 obtain ⟨b,r,rfl,h1,h2,h3,h4⟩:=WD h
 have:=WA (b:=b) (r:=r) (by rw [h1];rfl) h2 h3
 have hu:OB b.toNat=false:=(UD h1).2.2
 rw [hu,h4] at this
 exact this
theorem o8 {s:Str} (h:TR s=true) (b:UInt8) (r:Str) (e:s=b::r) (hl:P1 b.toNat=true) (hw:∀x∈b::r,Ej M6 x=true) (hn:(b::r).length≤24):E6 s [(4,s)]:=by
 subst e
 have:=WA (b:=b) (r:=r) (by rw [hl];rfl) hw hn
 have hu:OB b.toNat=false:=(UD hl).2.2
 rw [hu,h] at this
 exact this
theorem S8 {s:Str} (h:TR s=true):E6 s [(4,s)]:=by
 have ha:MC.all (fun w=>match w with|[]=>false|b::r=>P1 b.toNat&&(b::r).all (Ej M6)&&decide ((b::r).length≤24))=true:=by decide
 have hm:s∈MC:=by
  simp only [TR,List.any_eq_true,beq_iff_eq] at h
  obtain ⟨x,hx,rfl⟩:=h
  exact hx
 have:=A4.1 ha s hm
 match s,this,h with
 |b::r,this,h=>
  simp only [AK,decide_eq_true_eq,A4] at this
  exact o8 h b r rfl this.1.1 this.1.2 this.2
theorem Zc {s rest:Str} (h0:s∈SJ) (h1:∀b l,s=b::l→(P1 b.toNat||OB b.toNat)=false∧Hv b.toNat=false∧Un b.toNat=false∧(b==35)=false) (h2:(s++rest).take (Qn (s++rest))=s):NK s [(5,s)] rest:=by
 cases s with
 |nil=>exact absurd h0 (by decide)
 |cons b l=>
  obtain ⟨a1,a2,a3,a4⟩:=h1 b l rfl
  refine Y7 ?_ (fun c l' e=>by cases e;exact ⟨a3,a4⟩)
  rw [AX] at h2 ⊢
  rw [Ee,if_neg (by rw [a1];decide),if_neg (by rw [a2];decide),if_neg (by rw [h2];simp),h2]
theorem Ie (s:Str) (h0:s∈SJ) (h:s≠[45]∧s≠[60]∧s≠[61]):Fw s [(5,s)]:=fun rest=>by
 have hall:∀s∈SJ,s≠[45]∧s≠[60]∧s≠[61]→(match s with|[]=>false|b::_=>!(P1 b.toNat||OB b.toNat)&& !Hv b.toNat&& !Un b.toNat&& !(b==35))=true∧((∃b,s=[b]∧mW b=1∧(b==45)=false∧(b==60)=false∧(b==61)=false)∨∃b c,s=[b,c]∧cQ b c=true):=by
  intro s hs hn
  simp only [SJ,By,List.not_mem_nil,or_false] at hs
  rcases hs with rfl|rfl|rfl|rfl|rfl|rfl|rfl|rfl|rfl|rfl|rfl|rfl|rfl|rfl|rfl|rfl<;>first
   |exact ⟨by decide,.inr ⟨_,_,rfl,by decide⟩⟩
   |exact ⟨by decide,.inl ⟨_,rfl,by decide,by decide,by decide,by decide⟩⟩
   |exact absurd rfl hn.1
   |exact absurd rfl hn.2.1
   |exact absurd rfl hn.2.2
 obtain ⟨f1,f2⟩:=hall s h0 h
 refine Zc h0 (fun b l e=>?_) ?_
 · subst e
   simp only [AK,Dy] at f1
   exact ⟨f1.1.1.1,f1.1.1.2,f1.1.2,f1.2⟩
 · rcases f2 with ⟨b,rfl,g1,g2,g3,g4⟩|⟨b,c,rfl,g⟩
   · cases rest with
     |nil=>rw [A1,Qn,g1];rfl
     |cons c l=>
      have:cQ b c=false:=by
       simp only [cQ,Jb,List.cons_beq_cons,g2,g3,g4,Bool.false_and,and_self]
      rw [AX,A6,Qn,this,if_neg (by decide),g1];rfl
   · rw [AX,AX,A6,Qn,if_pos g];rfl
theorem Yo (b:UInt8) (hb:b=45∨b=60∨b=61) {rest:Str} (hr:∀c l,rest=c::l→(c==61)=false∧(c==62)=false):NK [b] [(5,[b])] rest:=by
 refine Zc (by rcases hb with rfl|rfl|rfl<;>decide) (fun c l e=>?_) ?_
 · cases e
   rcases hb with rfl|rfl|rfl<;>decide
 · cases rest with
   |nil=>rcases hb with rfl|rfl|rfl<;>rfl
   |cons c l=>
    obtain ⟨g1,g2⟩:=hr c l rfl
    have:cQ b c=false:=by
     simp only [cQ,Jb,List.cons_beq_cons,g1,g2,Bool.and_false,Bool.false_and,and_self]
    rw [AX,A6,Qn,this,if_neg (by decide)]
    rcases hb with rfl|rfl|rfl<;>rfl
theorem We {rest:Str} (h:Me rest=true):∀c l,rest=c::l→(c==61)=false∧(c==62)=false:=by
 rintro b l rfl
 have:∀c∈([10,32,40,41,44,59]:Str),(c==61)=false∧(c==62)=false:=by decide
 exact this b (by simpa [Me,D4] using h)
end Go.Ab
namespace Go.Ab
theorem u8n {n:Nat} (h:n < 256):(UInt8.ofNat n).toNat=n:=by simp [Nat.mod_eq_of_lt h]
theorem bG:∀(n:Nat),∀x∈Lib.decDigits n,Ej Hv x=true:=by
 intro n
 induction n using Nat.strongRecOn with
 |_ n ih=>
 intro x hx
 rw [Lib.decDigits] at hx
 have hd:∀m,m < 10→Ej Hv (UInt8.ofNat (48+m))=true:=fun m hm=>by
  simp only [Ej,Hv,u8n (show 48+m < 256 by omega),AK,decide_eq_true_eq];omega
 split at hx
 · rename_i h
   rw [Fa] at hx;rw [hx];exact hd n h
 · rename_i h
   rcases BP.1 hx with hx|hx
   · exact ih (n / 10) (by omega) x hx
   · rw [Fa] at hx;rw [hx];exact hd _ (by omega)
theorem YF:∀(s t:Str) (v:Int),G7 (s++t) v=(G7 s v).bind (G7 t)
 |[],t,v=>rfl
 |b::s,t,v=>by
  rw [AX,G7,G7]
  split
  · rfl
  · exact YF s t _
theorem kH:∀(n:Nat),n≤1000000→G7 (Lib.decDigits n) 0=some (n:Int):=by
 intro n
 induction n using Nat.strongRecOn with
 |_ n ih=>
 intro hn
 have hw:∀m,m < 10→IntKind.u8.wrap (((UInt8.ofNat (48+m)).toNat:Int) - 48)=m:=fun m hm=>by
  rw [u8n (by omega)]
  have:IntKind.u8.wrap (((48+m:Nat):Int) - 48)=(((48+m:Nat):Int) - 48) % 256:=rfl
  rw [this];omega
 rw [Lib.decDigits]
 split
 · rename_i h
   rw [G7,hw n h,if_neg (by omega),G7]
   congr 1;omega
 · rename_i h
   rw [YF,ih (n / 10) (by omega) (by omega),BZ,G7,hw _ (by omega),if_neg (by omega),G7]
   congr 1;omega
theorem dU:∀(n:Nat),1≤n→∃b l,Lib.decDigits n=b::l∧(b==48)=false:=by
 intro n
 induction n using Nat.strongRecOn with
 |_ n ih=>
 intro hn
 rw [Lib.decDigits]
 split
 · rename_i h
   refine ⟨_,[],rfl,?_⟩
   cases hb:(UInt8.ofNat (48+n)==48) with
   |false=>rfl
   |true=>
    rw [beq_iff_eq] at hb
    have:=congrArg UInt8.toNat hb
    rw [u8n (by omega)] at this
    have h2:(48:UInt8).toNat=48:=rfl
    omega
 · rename_i h
   obtain ⟨b,l,e,hb⟩:=ih (n / 10) (by omega) (by omega)
   exact ⟨b,l++[_],by rw [e];rfl,hb⟩
theorem pS {n:Nat} (h:n≤1000000):P2 (Lib.decDigits n)=n:=by rw [P2,kH n h];rfl
theorem eK {n:Nat} (h:n≤1000000):E6 (Lib.decDigits n) [(3,Lib.decDigits n)]:=fun rest hr=>by
 have ha:=bG n
 have hv:=kH n h
 have hh:∃b l,Lib.decDigits n=b::l∧(b==48&&decide ((b::l).length>1))=false:=by
  by_cases h0:n=0
  · subst h0;exact ⟨48,[],by rw [Lib.decDigits];rfl,rfl⟩
  · obtain ⟨b,l,e,hb⟩:=dU n (by omega)
    exact ⟨b,l,e,by rw [hb];rfl⟩
 obtain ⟨b,l,e,h48⟩:=hh
 rw [e] at ha hv ⊢
 have hd:=ha b (A9 ..)
 simp only [Ej] at hd
 have hdn:=hd
 simp only [Hv,AK,decide_eq_true_eq] at hdn
 have ht:=Yt ha (mZ hr)
 refine Y7 ?_ (fun c l' e'=>?_)
 · rw [AX] at ht ⊢
   have hlu:¬(P1 b.toNat||OB b.toNat)=true:=by
    simp only [P1,OB,BJ,AK,decide_eq_true_eq];omega
   rw [Ee,if_neg hlu,if_pos hd,ht,h48,if_neg (by decide),hv];rfl
 · cases e'
   refine ⟨?_,?_⟩
   · simp only [Un,Jb]
     refine ⟨⟨⟨?_,?_⟩,?_⟩,?_⟩<;>(apply j1;omega)
   · cases hb:(b==35) with
     |false=>rfl
     |true=>
      rw [beq_iff_eq] at hb;subst hb
      exact absurd hdn.1 (by decide)
def SK (u:Int):List KT:=if u < 0 then [(5,[45]),(3,Lib.decDigits u.natAbs)] else [(3,Lib.decDigits u.toNat)]
theorem Za {u:Int} (h1: -1000000≤u) (h2:u≤1000000):E6 (Lib.itoa u) (SK u):=by
 unfold Lib.itoa SK
 split
 · rename_i h
   intro rest hr
   refine NK.trans (s1:=[45]) (k1:=[(5,[45])]) (Yo 45 (.inl rfl) ?_) (eK (by omega) rest hr)
   intro c l e
   have hall:∀x:UInt8,Ej Hv x=true→(x==61)=false∧(x==62)=false:=fun x hx=>by
    simp only [Ej,Hv,AK,decide_eq_true_eq] at hx
    constructor
    · cases hb:(x==61) with
      |false=>rfl
      |true=>rw [beq_iff_eq] at hb;subst hb;exact absurd hx.2 (by decide)
    · cases hb:(x==62) with
      |false=>rfl
      |true=>rw [beq_iff_eq] at hb;subst hb;exact absurd hx.2 (by decide)
   obtain ⟨b,l2,e2⟩:∃b l2,Lib.decDigits u.natAbs=b::l2:=by
    obtain ⟨b,l2,e2,_⟩:=dU u.natAbs (by omega)
    exact ⟨b,l2,e2⟩
   have hb:=hall b (bG u.natAbs b (by rw [e2];exact A9 ..))
   rw [e2] at e
   cases e
   exact hb
 · exact eK (by omega)
theorem U0 {s:Str} (h:upperB s=true):∃b r,s=b::r∧OB b.toNat=true∧(∀x∈b::r,Ej M6 x=true)∧(b::r).length≤24:=by
 rw [upperB,Ou] at h
 simp only [AK,beq_iff_eq] at h
 obtain ⟨h0,h1,h2⟩:=h
 rw [BF] at h0 h1 h2
 split at h0
 · cases h0
 · rename_i hle
   rw [if_neg hle] at h1 h2
   match s,h0,h1,h2 with
   |[],_,h1,_=>simp [EB] at h1
   |b::r,h0,h1,h2=>
    rw [show (b::r).length+1=(r.length+1)+1 from rfl] at h0 h1 h2
    rw [EB] at h0 h1 h2
    have hsm:∀(n:Nat) (rest:Str) (i:Nat),rest.length < (b::r).length→(EB n rest i []).2.2=0→(EB n rest i []).1.length=2→(match (EB n rest i []).1 with|[]=>false|a::_=>a.kind==2&&a.text==b::r)=true→False:=by
     intro n rest i hlt g0 g1 g2
     rcases J7 n rest i [] g0 with h|⟨tl,h,hm⟩
     · rw [h] at g1;cases g1
     · rw [h,A6] at g1 g2
       cases tl with
       |nil=>cases g1
       |cons a tl=>
        simp only [AK,beq_iff_eq] at g2
        have:=hm a (A9 ..)
        rw [g2.2] at this
        omega
    split at h0
    · rename_i hb
      rw [if_pos hb] at h1 h2
      exact (hsm _ _ _ (by simp) h0 h1 h2).elim
    · rename_i hb
      rw [if_neg hb] at h1 h2
      split at h0
      · rename_i hc
        rw [if_pos hc] at h1 h2
        refine (hsm _ _ _ ?_ h0 h1 h2).elim
        rw [beq_iff_eq] at hc
        subst hc
        have:1≤cmt (35::r):=by simp [cmt]
        rw [Ah];simp only [AD];omega
      · rename_i hc
        rw [if_neg hc] at h1 h2
        cases hs:Ee (b::r) with
        |error e=>
         rw [hs] at h0
         rcases Nt hs with rfl|rfl<;>cases h0
        |ok x=>
         obtain ⟨k,t⟩:=x
         rw [hs] at h0 h1 h2
         rcases J7 _ _ _ _ h0 with h|⟨tl,h,hm⟩
         · rw [h] at h1;cases h1
         · rw [h] at h2
           replace h2:(k==2&&t==b::r)=true:=h2
           rw [AK,beq_iff_eq,beq_iff_eq] at h2
           obtain ⟨rfl,rfl⟩:=h2
           rw [Ee] at hs
           split at hs
           · split at hs
             · cases hs
             · rename_i hlen
               split at hs
               · rename_i hup
                 simp only [GH,BW,true_and] at hs
                 rw [hs] at hlen
                 exact ⟨b,r,rfl,hup,takeWhile_eq hs,by simpa using hlen⟩
               · split at hs<;>cases hs
           · split at hs
             · split at hs
               · cases hs
               · split at hs<;>cases hs
             · split at hs<;>cases hs
theorem N9 {s:Str} (h:upperB s=true):E6 s [(2,s)]:=by
 obtain ⟨b,r,rfl,h1,h2,h3⟩:=U0 h
 have:=WA (b:=b) (r:=r) (by rw [h1,NH]) h2 h3
 rw [h1,if_pos rfl] at this
 exact this
def shK (s:Str):List KT:=if s=[] then [(5,[95])] else [(1,s)]
theorem UC {s:Str} (h:Gi s=true):E6 (shown s) (shK s):=by
 unfold shown shK
 split
 · exact (Ie [95] (by decide) (by decide)).s
 · rename_i hs
   simp only [Gi,BJ,beq_iff_eq] at h
   rcases h with h|h
   · exact absurd h hs
   · exact MD h
def cmK (l:List (List KT)):List KT:=[(5,[44])].intercalate l
def HN (k:List KT):List KT:=(5,[40])::(k++[(5,[41])])
def T0 (l:List (List KT)):List KT:=if l=[] then [] else HN (cmK l)
def Kg (l:List (List KT)):List KT:=HN (cmK l)
theorem eB {α:Type} (sep x:List α):sep.intercalate [x]=x:=by simp [List.intercalate]
theorem YZ {α:Type} (sep x y:List α) (l:List (List α)):sep.intercalate (x::y::l)=x++(sep++sep.intercalate (y::l)):=by
 simp [List.intercalate,List.intersperse]
theorem TU {α:Type} {sep:Str} {ks:List KT} (hs:Fw sep ks) (hst:Me sep=true) (hne:sep≠[]) (f:α→Str) (g:α→List KT):∀l:List α,(∀x∈l,E6 (f x) (g x))→E6 (Lib.join (l.map f) sep) (ks.intercalate (l.map g))
 |[],_=>Fw.nil.s
 |[x],h=>by
  simp only [Lib.join,AE,AH,eB]
  exact h x (A9 ..)
 |x::y::l,h=>by
  have ih:=TU hs hst hne f g (y::l) (fun z hz=>h z (Ae _ hz))
  simp only [Lib.join,AE,YZ] at ih ⊢
  exact (h x (A9 ..)).ss (Wd hst hne) (hs.ss ih)
theorem hX:Fw [44,32] [(5,[44])]:=(Ie [44] (by decide) (by decide)).a H7
theorem lF:Fw [40] [(5,[40])]:=Ie _ (by decide) (by decide)
theorem lJ:Fw [41] [(5,[41])]:=Ie _ (by decide) (by decide)
theorem TW {s:Str} {k:List KT} (h:E6 s k):Fw (I8 s) (HN k):=lF.a (h.a rfl (by decide) lJ)
theorem eH {α:Type} (f:α→Str) (g:α→List KT) (l:List α) (h:∀x∈l,E6 (f x) (g x)):E6 (cms (l.map f)) (cmK (l.map g)):=TU hX rfl (by decide) f g l h
theorem RK {α:Type} (f:α→Str) (g:α→List KT) (l:List α) (h:∀x∈l,E6 (f x) (g x)):Fw (Hz (l.map f)) (T0 (l.map g)):=by
 unfold Hz T0
 cases l with
 |nil=>exact Fw.nil
 |cons x l=>exact TW (eH f g (x::l) h)
theorem TV {α:Type} (f:α→Str) (g:α→List KT) (l:List α) (h:∀x∈l,E6 (f x) (g x)):Fw (Hy (l.map f)) (Kg (l.map g)):=TW (eH f g l h)
theorem MM (l:List Str) {r:Str} (hr:Me r=true):Me (Hz l++r)=true:=by
 unfold Hz;split
 · exact hr
 · rfl
theorem RJ:Fw [32,45,62,32] [(5,[45,62])]:=H7.a ((Ie [45,62] (by decide) (by decide)).a H7)
theorem Y6:Fw [32,61,32] [(5,[61])]:=H7.a (fun rest=>(Yo 61 (.inr (.inr rfl)) (We (rest:=32::rest) rfl)).trans (H7 rest))
theorem UB {s:Str} (h:TR s=true):Fw (32::(s++[32])) [(4,s)]:=H7.a ((S8 h).a rfl (by decide) H7)
theorem O6 {s:Str} (h:TR s=true):Fw (s++[32]) [(4,s)]:=(S8 h).a rfl (by decide) H7
theorem eI {s:Str} (h:TR s=true):E6 (32::s) [(4,s)]:=H7.ss (S8 h)
end Go.Ab
namespace Go.Ab
def MP (k:Int) (n:Str) (ts:List (List KT)):List KT:=
 if k=1 then [(4,[105,110,116])] else if k=2 then [(4,[98,111,111,108])] else if k=3 then [(4,[117,110,105,116])]
                                                                                             else if k=7 then (4,[97,114,114,97,121])::T0 ts else if k=8 then (4,[114,101,102])::T0 ts
                                                                                             else if k=9 then (4,[102,110])::(Kg ts.dropLast++((5,[45,62])::ts.getLastD []))
                                                                                             else if k=4 then [(1,n)] else if k=5 then (2,n)::T0 ts else T0 ts
mutual
def HR:TE→List KT
 | .mk k n l=>MP k n (fD l)
def fD:List TE→List (List KT)
 |[]=>[]
 |t::l=>HR t::fD l
end
theorem RP:∀l:List TE,fD l=l.map HR
 |[]=>rfl
 |t::l=>by rw [fD,RP l];rfl
theorem Yn {k:Int} {n:Str} {q:Nat} (h:Cp k n q=true):k=1∨k=2∨k=3∨k=4∨k=5∨k=6∨k=7∨k=8∨k=9:=by
 unfold Cp at h
 split at h
 · omega
 · split at h
   · omega
   · split at h
     · omega
     · split at h
       · omega
       · split at h
         · omega
         · split at h
           · omega
           · cases h
theorem S9 {α:Type}:∀ {l:List α},1≤l.length→∃m x,l=m++[x]
 |[],h=>by simp at h
 |[x],_=>⟨[],x,rfl⟩
 |x::y::l,_=>by
  obtain ⟨m,z,e⟩:=S9 (l:=y::l) (by simp)
  exact ⟨x::m,z,by rw [e];rfl⟩
theorem lK:∀(d:Nat) (t:TE),D3 d t=true→E6 (C9 t) (HR t)
 |0,.mk ..,h=>by cases h
 |d+1,.mk k n l,h=>by
  rw [D3,AK,A4] at h
  obtain ⟨h1,h2⟩:=h
  have hl:=fun x hx=>lK d x (h2 x hx)
  rw [C9,HR,OS,RP]
  have ho:=RK C9 HR l hl
  have hk:=Yn h1
  rcases hk with rfl|rfl|rfl|rfl|rfl|rfl|rfl|rfl|rfl
  · exact S8 (s:=[105,110,116]) (by decide)
  · exact S8 (s:=[98,111,111,108]) (by decide)
  · exact S8 (s:=[117,110,105,116]) (by decide)
  · simp [Cp] at h1
    obtain ⟨h1,h3⟩:=h1
    subst h3
    show E6 (n++[]) [(1,n)]
    rw [A1]
    exact MD h1
  · simp [Cp] at h1
    exact (N9 h1.1).ss (by have:=MM (l.map C9) (r:=[]) rfl;rwa [A1] at this) ho.s
  · simp [Cp] at h1
    rw [h1.1.1]
    exact ho.s
  · exact (S8 (s:=[97,114,114,97,121]) (by decide)).ss (by have:=MM (l.map C9) (r:=[]) rfl;rwa [A1] at this) ho.s
  · exact (S8 (s:=[114,101,102]) (by decide)).ss (by have:=MM (l.map C9) (r:=[]) rfl;rwa [A1] at this) ho.s
  · simp [Cp] at h1
    obtain ⟨m,x,rfl⟩:=S9 h1.1.2
    have hm:=TV C9 HR m (fun y hy=>hl y (List.mem_append_left _ hy))
    have hx:=hl x (by simp)
    show E6 ([102,110]++(Hy ((m++[x]).map C9).dropLast++([32,45,62,32]++((m++[x]).map C9).getLastD []))) ((4,[102,110])::(Kg ((m++[x]).map HR).dropLast++((5,[45,62])::((m++[x]).map HR).getLastD [])))
    simp only [Bc,AE,AH,List.dropLast_concat,List.getLastD_concat]
    exact (S8 (s:=[102,110]) (by decide)).ss rfl (hm.ss (RJ.ss hx))
def atK (l:List (List KT)) (i:Nat):List KT:=l.getD i []
def plK (d:Nat) (k:Ex) (t:List KT):List KT:=if lvl k < d then HN t else t
def wH (ks:List Ex) (ts:List (List KT)):List KT:=match ks with
 |[]=>Kg ts.tail
 |k::_=>(if Ld k then HN (atK ts 0) else plK 4 k (atK ts 0))++Kg ts.tail
def wI (u:Int) (ks:List Ex) (ts:List (List KT)):List KT:=match ks with
 |[a,b]=>plK (if EN u=1 then 2 else EN u) a (atK ts 0)++((5,opT u)::plK (if EN u=1 then 2 else EN u+1) b (atK ts 1))
 |_=>[]
def tkN (o:Int) (n:Str) (u:Int) (ns:List Str) (ks:List Ex) (ts:List (List KT)) (aks:List (List KT)):List KT:=
 if o=7 then (4,[108,101,116])::(shK n++((5,[61])::(atK ts 0++((4,[105,110])::atK ts 1))))
                                                                 else if o=8 then (4,[108,101,116])::(T0 (ns.map shK)++((5,[61])::(atK ts 0++((4,[105,110])::atK ts 1))))
                                                                 else if o=9 then (4,[105,102])::(atK ts 0++((4,[116,104,101,110])::(atK ts 1++((4,[101,108,115,101])::atK ts 2))))
                                                                 else if o=10 then (4,[109,97,116,99,104])::(atK ts 0++((4,[119,105,116,104])::([(5,[124])].intercalate aks++[(4,[101,110,100])])))
                                                                 else if o=11 then (4,[102,110])::(Kg (ns.map fun s=>[(1,s)])++((5,[45,62])::atK ts 0))
                                                                 else if o=17 then (4,[116,114,121])::(atK ts 0++((4,[99,97,116,99,104])::(shK n++((5,[45,62])::(atK ts 1++[(4,[101,110,100])])))))
                                                                 else if o=13 then wI u ks ts
                                                                 else if o=12 then wH ks ts
                                                                 else if o=1 then [(5,[40]),(5,[41])]
                                                                 else if o=2 then (if u=1 then [(4,[116,114,117,101])] else [(4,[102,97,108,115,101])])
                                                                 else if o=3 then SK u
                                                                 else if o=5 then Kg ts
                                                                 else if o=14 then (4,prT u)::Kg ts
                                                                 else if o=16 then (4,[114,97,105,115,101])::Kg ts
                                                                 else if o=15 then (4,[116,105,99,107])::HN (SK u)
                                                                 else if o=4 then [(1,n)]
                                                                 else (2,n)::T0 ts
def tQ (c:Str) (vs:List Str) (b:List KT):List KT:=(2,c)::(T0 (vs.map shK)++((5,[45,62])::b))
mutual
def tkE:Ex→List KT
 | .mk o n u ns ks al=>tkN o n u ns ks (qL ks) (qK al)
def qL:List Ex→List (List KT)
 |[]=>[]
 |t::l=>tkE t::qL l
def tkA:Al→List KT
 | .mk c vs b=>tQ c vs (tkE b)
def qK:List Al→List (List KT)
 |[]=>[]
 |t::l=>tkA t::qK l
end
theorem MO:∀l:List Ex,qL l=l.map tkE
 |[]=>rfl
 |t::l=>by rw [qL,MO l];rfl
theorem MN:∀l:List Al,qK l=l.map tkA
 |[]=>rfl
 |t::l=>by rw [qK,MN l];rfl
theorem eO {o u:Int} {q:Nat} (h:nkB o u q=true):o=1∨o=2∨o=3∨o=4∨o=5∨o=6∨o=7∨o=8∨o=9∨o=10∨o=11∨o=12∨o=13∨o=14∨o=15∨o=16∨o=17:=by
 unfold nkB at h
 repeat' (split at h)
 all_goals first|omega|cases h
theorem bV {d:Nat} {k:Ex} {t:Str} {q:List KT} (h:E6 t q):E6 (pl d k t) (plK d k q):=by
 unfold pl plK
 split
 · exact (TW h).s
 · exact h
theorem X4 {l:List Str} (h:l.all Gi=true):∀s∈l,E6 (shown s) (shK s):=fun s hs=>UC (A4.1 h s hs)
theorem sZ {u:Int} (h1:1≤u) (h2:u≤8):E6 (opT u) [(5,opT u)]:=by
 have h:u=1∨u=2∨u=3∨u=4∨u=5∨u=6∨u=7∨u=8:=by omega
 rcases h with rfl|rfl|rfl|rfl|rfl|rfl|rfl|rfl
 · exact (Ie [43] (by decide) (by decide)).s
 · exact fun r hr=>Yo 45 (.inl rfl) (We hr)
 · exact (Ie [42] (by decide) (by decide)).s
 · exact (Ie [47] (by decide) (by decide)).s
 · exact (Ie [37] (by decide) (by decide)).s
 · exact fun r hr=>Yo 60 (.inr (.inl rfl)) (We hr)
 · exact (Ie [60,61] (by decide) (by decide)).s
 · exact (Ie [61,61] (by decide) (by decide)).s
theorem lH {u:Int}:E6 (prT u) [(4,prT u)]:=by
 unfold prT
 repeat' split
 all_goals exact S8 (by decide)
theorem Uw {α:Type} {l:List α} (h:l.length=1):∃a,l=[a]:=by
 match l,h with
 |[a],_=>exact ⟨a,rfl⟩
theorem R7 {α:Type} {l:List α} (h:l.length=2):∃a b,l=[a,b]:=by
 match l,h with
 |[a,b],_=>exact ⟨a,b,rfl⟩
theorem bT {α:Type} {l:List α} (h:l.length=3):∃a b c,l=[a,b,c]:=by
 match l,h with
 |[a,b,c],_=>exact ⟨a,b,c,rfl⟩
theorem lG (o:Int) (n:Str) (u:Int) (ns:List Str) (ks:List Ex) (al:List Al) (hn:G5 o n u ns ks.length al=true) (hk:∀x∈ks,E6 (Ax x) (tkE x)) (ha:∀x∈al,E6 (Lr x) (tkA x)):E6 (Ax (.mk o n u ns ks al)) (tkE (.mk o n u ns ks al)):=by
 simp only [G5,AK] at hn
 obtain ⟨⟨⟨⟨hnm,hnu⟩,hns⟩,has⟩,hnk⟩:=hn
 rw [Ax,tkE,L9,MO,Tr,MN]
 have hl:=TV Ax tkE ks hk
 have ho:=RK Ax tkE ks hk
 rcases eO hnk with rfl|rfl|rfl|rfl|rfl|rfl|rfl|rfl|rfl|rfl|rfl|rfl|rfl|rfl|rfl|rfl|rfl
 · exact (lF.a lJ).s
 · show E6 (if u=1 then [116,114,117,101] else [102,97,108,115,101]) (if u=1 then [(4,[116,114,117,101])] else [(4,[102,97,108,115,101])])
   split
   · exact S8 (by decide)
   · exact S8 (by decide)
 · simp [nuB] at hnu
   exact Za hnu.1 hnu.2
 · have:ks=[]:=by simpa [nkB] using hnk
   subst this
   show E6 (n++[]) [(1,n)]
   rw [A1]
   exact MD (by simpa [nmB] using hnm)
 · exact hl.s
 · exact (N9 (by simpa [nmB] using hnm)).ss (by have:=MM (ks.map Ax) (r:=[]) rfl;rwa [A1] at this) ho.s
 · obtain ⟨a,b,rfl⟩:=R7 (by simpa [nkB] using hnk)
   exact (O6 (s:=[108,101,116]) (by decide)).ss ((UC (by simpa [nmB] using hnm)).ss rfl (Y6.ss ((hk a (by simp)).ss rfl ((UB (s:=[105,110]) (by decide)).ss (hk b (by simp))))))
 · obtain ⟨a,b,rfl⟩:=R7 (by simpa [nkB] using hnk)
   simp only [nsB,if_true,AK] at hns
   exact (O6 (s:=[108,101,116]) (by decide)).ss ((RK shown shK ns (X4 hns.2)).ss (Y6.ss ((hk a (by simp)).ss rfl ((UB (s:=[105,110]) (by decide)).ss (hk b (by simp))))))
 · obtain ⟨a,b,c,rfl⟩:=bT (by simpa [nkB] using hnk)
   exact (O6 (s:=[105,102]) (by decide)).ss ((hk a (by simp)).ss rfl ((UB (s:=[116,104,101,110]) (by decide)).ss ((hk b (by simp)).ss rfl ((UB (s:=[101,108,115,101]) (by decide)).ss (hk c (by simp))))))
 · obtain ⟨a,rfl⟩:=Uw (by simpa [nkB] using hnk)
   have hj:=TU (sep:=[32,124,32]) (ks:=[(5,[124])]) (H7.a ((Ie [124] (by decide) (by decide)).a H7)) rfl (by decide) Lr tkA al ha
   exact (O6 (s:=[109,97,116,99,104]) (by decide)).ss ((hk a (by simp)).ss rfl ((UB (s:=[119,105,116,104]) (by decide)).ss (hj.ss rfl (eI (s:=[101,110,100]) (by decide)))))
 · obtain ⟨a,rfl⟩:=Uw (by simpa [nkB] using hnk)
   simp [nsB] at hns
   have hp:=TV id (fun s=>[(1,s)]) ns (fun s hs=>MD (hns.2 s hs))
   rw [List.map_id] at hp
   exact (S8 (s:=[102,110]) (by decide)).ss rfl (hp.ss (RJ.ss (hk a (by simp))))
 · cases ks with
   |nil=>simp [nkB] at hnk
   |cons f l=>
    have hl2:=TV Ax tkE l (fun x hx=>hk x (Ae _ hx))
    have hf:=hk f (A9 ..)
    show E6 ((if Ld f then I8 (Ax f) else pl 4 f (Ax f))++Hy (l.map Ax)) ((if Ld f then HN (tkE f) else plK 4 f (tkE f))++Kg (l.map tkE))
    refine E6.ss ?_ rfl hl2.s
    split
    · exact (TW hf).s
    · exact bV hf
 · obtain ⟨a,b,rfl⟩:=R7 (by simpa [nkB] using hnk)
   simp [nuB] at hnu
   exact (bV (hk a (by simp))).ss rfl (H7.ss ((sZ hnu.1 hnu.2).ss rfl (H7.ss (bV (hk b (by simp))))))
 · exact (lH (u:=u)).ss rfl hl.s
 · simp [nuB] at hnu
   exact (S8 (s:=[116,105,99,107]) (by decide)).ss rfl (TW (Za (by omega) (by omega))).s
 · exact (S8 (s:=[114,97,105,115,101]) (by decide)).ss rfl hl.s
 · obtain ⟨a,b,rfl⟩:=R7 (by simpa [nkB] using hnk)
   exact (O6 (s:=[116,114,121]) (by decide)).ss ((hk a (by simp)).ss rfl ((UB (s:=[99,97,116,99,104]) (by decide)).ss ((UC (by simpa [nmB] using hnm)).ss rfl (RJ.ss ((hk b (by simp)).ss rfl (eI (s:=[101,110,100]) (by decide)))))))
theorem aR {o:Int} {al:List Al} (h:asB o al=true):∀a∈al,SP a=true:=fun a ha=>by
 unfold asB at h
 split at h
 · simp only [AK,A4] at h;exact h.2 a ha
 · have:al=[]:=by simpa using h
   rw [this] at ha;cases ha
mutual
theorem bU:∀(e:Ex),e.nb→E6 (Ax e) (tkE e)
 | .mk o n u ns ks al,h=>by
  rw [Ex.nb] at h
  have h4:=h.1
  simp only [G5,AK] at h4
  exact lG o n u ns ks al h.1 (eJ ks h.2.1) (eG al h.2.2 (aR h4.1.2))
theorem eJ:∀(l:List Ex),Ex.nbs l→∀x∈l,E6 (Ax x) (tkE x)
 |[],_,x,hx=>by cases hx
 |k::l,h,x,hx=>by
  rw [Ex.nbs] at h
  have h1:=bU k h.1
  have h2:=eJ l h.2
  rcases By.1 hx with rfl|hx
  · exact h1
  · exact h2 x hx
theorem sX:∀(a:Al),a.nb→SP a=true→E6 (Lr a) (tkA a)
 | .mk c vs b,h,ha=>by
  rw [Al.nb] at h
  simp only [SP,AK] at ha
  rw [Lr,tkA]
  exact (N9 ha.1.1).ss (MM _ rfl) ((RK shown shK vs (X4 ha.2)).ss (RJ.ss (bU b h)))
theorem eG:∀(l:List Al),Al.nbs l→(∀a∈l,SP a=true)→∀x∈l,E6 (Lr x) (tkA x)
 |[],_,_,x,hx=>by cases hx
 |k::l,h,ha,x,hx=>by
  rw [Al.nbs] at h
  have h1:=sX k h.1 (ha _ (A9 ..))
  have h2:=eG l h.2 (fun a h=>ha a (Ae _ h))
  rcases By.1 hx with rfl|hx
  · exact h1
  · exact h2 x hx
end
def tkC (c:CE):List KT:=(2,c.name)::T0 (c.args.map HR)
def tkD (d:DE):List KT:=(4,[100,97,116,97])::(2,d.name)::(T0 (d.vars.map fun s=>[(1,s)])++((5,[61])::([(5,[124])].intercalate (d.cons.map tkC)++[(5,[59])])))
def tkF (f:FE):List KT:=(4,[102,117,110])::(1,f.name)::(Kg (f.params.map fun s=>[(1,s)])++((5,[61])::(tkE f.body++[(5,[59])])))
def tkP (p:Pg):List KT:=(p.data.map tkD).flatten++(p.S3.map tkF).flatten
theorem Zb:Fw [59,10] [(5,[59])]:=(Ie [59] (by decide) (by decide)).a sY
theorem oZ {c:CE} (h:To c=true):E6 (fmtC c) (tkC c):=by
 simp only [To,AK,A4] at h
 exact (N9 h.1.1).ss (by have:=MM (c.args.map C9) (r:=[]) rfl;rwa [A1] at this) (RK C9 HR c.args (fun t ht=>lK 40 t (h.2 t ht))).s
theorem lE {d:DE} (h:IT d=true):Fw (S0 d) (tkD d):=by
 simp only [IT,AK,A4] at h
 obtain ⟨⟨⟨⟨⟨h1,h2⟩,h3⟩,h4⟩,h5⟩,h6⟩:=h
 have hp:=RK id (fun s=>[(1,s)]) d.vars (fun s hs=>MD (h3 s hs))
 rw [List.map_id] at hp
 have hj:=TU (sep:=[32,124,32]) (ks:=[(5,[124])]) (H7.a ((Ie [124] (by decide) (by decide)).a H7)) rfl (by decide) fmtC tkC d.cons (fun c hc=>oZ (h6 c hc))
 exact (O6 (s:=[100,97,116,97]) (by decide)).a ((N9 h1).a (MM _ rfl) (by simp) (hp.a (Y6.a (hj.a rfl (by decide) Zb))))
theorem o6 {f:FE} (h:Mc f=true) (hb:f.body.nb):Fw (Ts f) (tkF f):=by
 simp only [Mc,AK,A4] at h
 have hp:=TV id (fun s=>[(1,s)]) f.params (fun s hs=>MD (h.2 s hs))
 rw [List.map_id] at hp
 exact (O6 (s:=[102,117,110]) (by decide)).a ((MD h.1.1).a rfl (by simp [Hy,I8]) (hp.a (Y6.a ((bU _ hb).a rfl (by decide) Zb))))
theorem Vz {α:Type} (f:α→Str) (g:α→List KT):∀l:List α,(∀x∈l,Fw (f x) (g x))→Fw (l.map f).flatten (l.map g).flatten
 |[],_=>Fw.nil
 |x::l,h=>(h x (A9 ..)).a (Vz f g l (fun y hy=>h y (Ae _ hy)))
theorem aC {p:Pg} (h:EW p=true):(∀d∈p.data,IT d=true)∧∀f∈p.S3,Mc f=true∧f.body.nb:=by
 simp only [EW,AK,A4] at h
 obtain ⟨r,hr⟩:=Ul.1 h.2
 refine ⟨h.1.2,NU p.S3 600 r (fun f _ a b hab=>?_) hr⟩
 unfold Wr at hab
 split at hab
 · rename_i hh;exact ⟨hh,Yu 40 a f.body b hab⟩
 · cases hab
theorem lI {p:Pg} (h:EW p=true):Fw (Up p) (tkP p):=by
 obtain ⟨h1,h2⟩:=aC h
 exact (Vz S0 tkD p.data (fun d hd=>lE (h1 d hd))).a (Vz Ts tkF p.S3 (fun f hf=>o6 (h2 f hf).1 (h2 f hf).2))
theorem iW {s:Str} {ks:List KT} (h:Fw s ks) (hl:s.length≤16384):(BF s).2.2=0∧strip (BF s).1=ks++[(6,[])]:=by
 unfold BF
 rw [if_neg (by omega)]
 obtain ⟨n,i,acc,e1,e2,e3⟩:=h [] (s.length+1) 0 [] (by simp)
 rw [A1] at e3
 rw [e3]
 cases n with
 |zero=>simp at e2
 |succ n=>
  rw [EB]
  refine ⟨rfl,?_⟩
  show strip (acc++[⟨6,[],i⟩])=_
  rw [strip,Bc]
  rw [strip] at e1
  rw [e1];rfl
end Go.Ab
