/- The tokens of formatted texts, in plain data: the pieces. The tokens of formatted texts, in plain data: types, expressions, programs. The tokens of formatted programs, in plain data. Conditions: none. -/
import Derived.Test.YtifplkldbbcldaaGreatDoorXQb
set_option linter.unusedSimpArgs false
set_option linter.unusedVariables false
set_option maxRecDepth 4000
set_option maxHeartbeats 8000000
open List renaming append_assoc→AR,cons_append→AU,nil_append→A6,takeWhile_cons→B8,mem_cons_self→A9,mem_cons_of_mem→Ae,contains_eq_mem→Dd,all_eq_true→A4,mem_cons→Bm,append_nil→A0,mem_singleton→Da,mem_append→BF,length_drop→Ad,length_cons→AD,map_cons→AE,map_nil→AH,map_append→B1
open Bool renaming or_eq_true→BE,and_eq_true→AK,or_eq_false_iff→GP,not_eq_true'→EM,or_true→NO
open Option renaming bind_some→B0,isSome_iff_exists→Ux
open Except.ok renaming injEq→D2
open Prod.mk renaming injEq→BH
namespace Go.Ab
abbrev KT:=Int×Str
def Ml:Str→Bool
 |[]=>true
 |b::_=>[10,32,40,41,44,59].contains b
def HF (s:Str) (ks:List KT) (rest:Str):Prop:=∀n i acc,(s++rest).length < n→∃n' i' acc',strip acc'=strip acc++ks∧rest.length < n'∧Cd n (s++rest) i acc=Cd n' rest i' acc'
def EE (s:Str) (ks:List KT):Prop:=∀rest,Ml rest=true→HF s ks rest
def FA (s:Str) (ks:List KT):Prop:=∀rest,HF s ks rest
theorem HF.trans {s1 s2:Str} {k1 k2:List KT} {rest:Str} (h1:HF s1 k1 (s2++rest)) (h2:HF s2 k2 rest):HF (s1++s2) (k1++k2) rest:=fun n i acc hn=>by
 rw [AR] at hn ⊢
 obtain ⟨n1,i1,a1,e1,l1,g1⟩:=h1 n i acc hn
 obtain ⟨n2,i2,a2,e2,l2,g2⟩:=h2 n1 i1 a1 l1
 exact ⟨n2,i2,a2,by rw [e2,e1,AR],l2,by rw [g1,g2]⟩
theorem HF.nil (rest:Str):HF [] [] rest:=fun n i acc hn=>⟨n,i,acc,by simp,hn,rfl⟩
theorem FA.s {s:Str} {ks:List KT} (h:FA s ks):EE s ks:=fun r _=>h r
theorem FA.nil:FA [] []:=HF.nil
theorem FA.a {s1 s2:Str} {k1 k2:List KT} (h1:FA s1 k1) (h2:FA s2 k2):FA (s1++s2) (k1++k2):=fun r=>(h1 _).trans (h2 r)
theorem FA.ss {s1 s2:Str} {k1 k2:List KT} (h1:FA s1 k1) (h2:EE s2 k2):EE (s1++s2) (k1++k2):=fun r hr=>(h1 _).trans (h2 r hr)
theorem Wp {s r:Str} (h:Ml s=true) (hn:s≠[]):Ml (s++r)=true:=by
 cases s with
 |nil=>exact absurd rfl hn
 |cons b l=>exact h
theorem EE.a {s1 s2:Str} {k1 k2:List KT} (h1:EE s1 k1) (hs:Ml s2=true) (hn:s2≠[]) (h2:FA s2 k2):FA (s1++s2) (k1++k2):=fun r=>(h1 _ (Wp hs hn)).trans (h2 r)
theorem EE.ss {s1 s2:Str} {k1 k2:List KT} (h1:EE s1 k1) (hs:Ml s2=true) (h2:EE s2 k2):EE (s1++s2) (k1++k2):=fun r hr=>by
 by_cases hn:s2=[]
 · subst hn;exact (h1 _ hr).trans (h2 r hr)
 · exact (h1 _ (Wp hs hn)).trans (h2 r hr)
theorem T3 {s rest:Str} {k:Int} (hs:Cc (s++rest)= .ok (k,s)) (hb:∀b l,s=b::l→TA b.toNat=false∧(b==35)=false):HF s [(k,s)] rest:=fun n i acc hn=>by
 have hl:=(OB hs).1
 cases s with
 |nil=>simp at hl
 |cons b l=>
  obtain ⟨h1,h2⟩:=hb b l rfl
  cases n with
  |zero=>omega
  |succ n=>
   refine ⟨n,i+(b::l).length,acc++[⟨k,b::l,i⟩],by simp [strip],by simp at hn ⊢;omega,?_⟩
   rw [AU] at hs ⊢
   rw [Cd,if_neg (by rw [h1];decide),if_neg (by rw [h2];decide),hs]
   simp only
   rw [← AU,List.drop_left]
theorem UL {b:UInt8} (hb:TA b.toNat=true):FA [b] []:=fun rest n i acc hn=>by
 cases n with
 |zero=>omega
 |succ n=>exact ⟨n,i+1,acc,by simp,by simp at hn;omega,by rw [AU,A6,Cd,if_pos hb]⟩
theorem HC:FA [32] []:=UL (by decide)
theorem lZ:FA [10] []:=UL (by decide)
theorem XA {p:UInt8→Bool} {s rest:Str} (h:∀x∈s,p x=true) (hr:∀b l,rest=b::l→p b=false):(s++rest).takeWhile p=s:=by
 induction s with
 |nil=>
  cases rest with
  |nil=>rfl
  |cons b l=>rw [A6,B8,hr b l rfl];rfl
 |cons x s ih=>rw [AU,B8,h x (A9 ..),if_pos rfl,ih (fun y hy=>h y (Ae _ hy))]
theorem nW {rest:Str} (h:Ml rest=true):∀b l,rest=b::l→Db Iy b=false:=by
 rintro b l rfl
 have:∀c∈([10,32,40,41,44,59]:Str),Db Iy c=false:=by decide
 exact this b (by simpa [Ml,Dd] using h)
theorem aL {rest:Str} (h:Ml rest=true):∀b l,rest=b::l→Db GM b=false:=by
 rintro b l rfl
 have:∀c∈([10,32,40,41,44,59]:Str),Db GM c=false:=by decide
 exact this b (by simpa [Ml,Dd] using h)
theorem T4 {b:UInt8} {r:Str} (hlu:(Ni b.toNat||Mc b.toNat)=true) (hw:∀x∈b::r,Db Iy x=true) (hl:(b::r).length≤24):EE (b::r) [(if Mc b.toNat then 2 else if TX (b::r) then 4 else 1,b::r)]:=fun rest hr=>by
 refine T3 ?_ (fun c l e=>?_)
 · have ht:=XA hw (nW hr)
   rw [AU] at ht ⊢
   rw [Cc,if_pos hlu,ht,if_neg (by simp only [decide_eq_true_eq];omega)]
   split
   · rfl
   · split<;>rfl
 · cases e
   simp only [Ni,Mc,BE,AK,decide_eq_true_eq] at hlu
   refine ⟨?_,?_⟩
   · simp only [TA,GP]
     refine ⟨⟨⟨?_,?_⟩,?_⟩,?_⟩<;>(apply eK;omega)
   · cases hb:(b==35) with
     |false=>rfl
     |true=>
      rw [beq_iff_eq] at hb;subst hb
      exfalso
      rcases hlu with h|h
      · have:=h.1;revert this;decide
      · have:=h.1;revert this;decide
theorem MH {s:Str} (h:Gy s=true):EE s [(1,s)]:=by
 obtain ⟨b,r,rfl,h1,h2,h3,h4⟩:=WS h
 have:=T4 (b:=b) (r:=r) (by rw [h1];rfl) h2 h3
 have hu:Mc b.toNat=false:=(UO h1).2.2
 rw [hu,h4] at this
 exact this
theorem pU {s:Str} (h:TX s=true) (b:UInt8) (r:Str) (e:s=b::r) (hl:Ni b.toNat=true) (hw:∀x∈b::r,Db Iy x=true) (hn:(b::r).length≤24):EE s [(4,s)]:=by
 subst e
 have:=T4 (b:=b) (r:=r) (by rw [hl];rfl) hw hn
 have hu:Mc b.toNat=false:=(UO hl).2.2
 rw [hu,h] at this
 exact this
theorem Sd {s:Str} (h:TX s=true):EE s [(4,s)]:=by
 have ha:MG.all (fun w=>match w with|[]=>false|b::r=>Ni b.toNat&&(b::r).all (Db Iy)&&decide ((b::r).length≤24))=true:=by decide
 have hm:s∈MG:=by
  simp only [TX,List.any_eq_true,beq_iff_eq] at h
  obtain ⟨x,hx,rfl⟩:=h
  exact hx
 have:=A4.1 ha s hm
 match s,this,h with
 |b::r,this,h=>
  simp only [AK,decide_eq_true_eq,A4] at this
  exact pU h b r rfl this.1.1 this.1.2 this.2
theorem Zr {s rest:Str} (h0:s∈PR) (h1:∀b l,s=b::l→(Ni b.toNat||Mc b.toNat)=false∧GM b.toNat=false∧TA b.toNat=false∧(b==35)=false) (h2:(s++rest).take (Ik (s++rest))=s):HF s [(5,s)] rest:=by
 cases s with
 |nil=>exact absurd h0 (by decide)
 |cons b l=>
  obtain ⟨a1,a2,a3,a4⟩:=h1 b l rfl
  refine T3 ?_ (fun c l' e=>by cases e;exact ⟨a3,a4⟩)
  rw [AU] at h2 ⊢
  rw [Cc,if_neg (by rw [a1];decide),if_neg (by rw [a2];decide),if_neg (by rw [h2];simp),h2]
theorem GC (s:Str) (h0:s∈PR) (h:s≠[45]∧s≠[60]∧s≠[61]):FA s [(5,s)]:=fun rest=>by
 have hall:∀s∈PR,s≠[45]∧s≠[60]∧s≠[61]→(match s with|[]=>false|b::_=>!(Ni b.toNat||Mc b.toNat)&& !GM b.toNat&& !TA b.toNat&& !(b==35))=true∧((∃b,s=[b]∧Sl b=1∧(b==45)=false∧(b==60)=false∧(b==61)=false)∨∃b c,s=[b,c]∧Wj b c=true):=by
  intro s hs hn
  simp only [PR,Bm,List.not_mem_nil,or_false] at hs
  rcases hs with rfl|rfl|rfl|rfl|rfl|rfl|rfl|rfl|rfl|rfl|rfl|rfl|rfl|rfl|rfl|rfl<;>first
   |exact ⟨by decide,.inr ⟨_,_,rfl,by decide⟩⟩
   |exact ⟨by decide,.inl ⟨_,rfl,by decide,by decide,by decide,by decide⟩⟩
   |exact absurd rfl hn.1
   |exact absurd rfl hn.2.1
   |exact absurd rfl hn.2.2
 obtain ⟨f1,f2⟩:=hall s h0 h
 refine Zr h0 (fun b l e=>?_) ?_
 · subst e
   simp only [AK,EM] at f1
   exact ⟨f1.1.1.1,f1.1.1.2,f1.1.2,f1.2⟩
 · rcases f2 with ⟨b,rfl,g1,g2,g3,g4⟩|⟨b,c,rfl,g⟩
   · cases rest with
     |nil=>rw [A0,Ik,g1];rfl
     |cons c l=>
      have:Wj b c=false:=by
       simp only [Wj,GP,List.cons_beq_cons,g2,g3,g4,Bool.false_and,and_self]
      rw [AU,A6,Ik,this,if_neg (by decide),g1];rfl
   · rw [AU,AU,A6,Ik,if_pos g];rfl
theorem Sm (b:UInt8) (hb:b=45∨b=60∨b=61) {rest:Str} (hr:∀c l,rest=c::l→(c==61)=false∧(c==62)=false):HF [b] [(5,[b])] rest:=by
 refine Zr (by rcases hb with rfl|rfl|rfl<;>decide) (fun c l e=>?_) ?_
 · cases e
   rcases hb with rfl|rfl|rfl<;>decide
 · cases rest with
   |nil=>rcases hb with rfl|rfl|rfl<;>rfl
   |cons c l=>
    obtain ⟨g1,g2⟩:=hr c l rfl
    have:Wj b c=false:=by
     simp only [Wj,GP,List.cons_beq_cons,g1,g2,Bool.and_false,Bool.false_and,and_self]
    rw [AU,A6,Ik,this,if_neg (by decide)]
    rcases hb with rfl|rfl|rfl<;>rfl
theorem OG {rest:Str} (h:Ml rest=true):∀c l,rest=c::l→(c==61)=false∧(c==62)=false:=by
 rintro b l rfl
 have:∀c∈([10,32,40,41,44,59]:Str),(c==61)=false∧(c==62)=false:=by decide
 exact this b (by simpa [Ml,Dd] using h)
end Go.Ab
namespace Go.Ab
theorem u8n {n:Nat} (h:n < 256):(UInt8.ofNat n).toNat=n:=by simp [Nat.mod_eq_of_lt h]
theorem bX:∀(n:Nat),∀x∈Lib.decDigits n,Db GM x=true:=by
 intro n
 induction n using Nat.strongRecOn with
 |_ n ih=>
 intro x hx
 rw [Lib.decDigits] at hx
 have hd:∀m,m < 10→Db GM (UInt8.ofNat (48+m))=true:=fun m hm=>by
  simp only [Db,GM,u8n (show 48+m < 256 by omega),AK,decide_eq_true_eq];omega
 split at hx
 · rename_i h
   rw [Da] at hx;rw [hx];exact hd n h
 · rename_i h
   rcases BF.1 hx with hx|hx
   · exact ih (n / 10) (by omega) x hx
   · rw [Da] at hx;rw [hx];exact hd _ (by omega)
theorem YT:∀(s t:Str) (v:Int),Gd (s++t) v=(Gd s v).bind (Gd t)
 |[],t,v=>rfl
 |b::s,t,v=>by
  rw [AU,Gd,Gd]
  split
  · rfl
  · exact YT s t _
theorem k5:∀(n:Nat),n≤1000000→Gd (Lib.decDigits n) 0=some (n:Int):=by
 intro n
 induction n using Nat.strongRecOn with
 |_ n ih=>
 intro hn
 have hw:∀m,m < 10→IntKind.u8.wrap (((UInt8.ofNat (48+m)).toNat:Int) - 48)=m:=fun m hm=>by
  rw [u8n (by omega)]
  have:IntKind.u8.wrap (((48+m:Nat):Int) - 48)=(((48+m:Nat):Int) - 48) % 256:=rfl
  rw [this];omega
 rw [Lib.decDigits]
 split
 · rename_i h
   rw [Gd,hw n h,if_neg (by omega),Gd]
   congr 1;omega
 · rename_i h
   rw [YT,ih (n / 10) (by omega) (by omega),B0,Gd,hw _ (by omega),if_neg (by omega),Gd]
   congr 1;omega
theorem eO:∀(n:Nat),1≤n→∃b l,Lib.decDigits n=b::l∧(b==48)=false:=by
 intro n
 induction n using Nat.strongRecOn with
 |_ n ih=>
 intro hn
 rw [Lib.decDigits]
 split
 · rename_i h
   refine ⟨_,[],rfl,?_⟩
   cases hb:(UInt8.ofNat (48+n)==48) with
   |false=>rfl
   |true=>
    rw [beq_iff_eq] at hb
    have:=congrArg UInt8.toNat hb
    rw [u8n (by omega)] at this
    have h2:(48:UInt8).toNat=48:=rfl
    omega
 · rename_i h
   obtain ⟨b,l,e,hb⟩:=ih (n / 10) (by omega) (by omega)
   exact ⟨b,l++[_],by rw [e];rfl,hb⟩
theorem qP {n:Nat} (h:n≤1000000):Pb (Lib.decDigits n)=n:=by rw [Pb,k5 n h];rfl
theorem fE {n:Nat} (h:n≤1000000):EE (Lib.decDigits n) [(3,Lib.decDigits n)]:=fun rest hr=>by
 have ha:=bX n
 have hv:=k5 n h
 have hh:∃b l,Lib.decDigits n=b::l∧(b==48&&decide ((b::l).length>1))=false:=by
  by_cases h0:n=0
  · subst h0;exact ⟨48,[],by rw [Lib.decDigits];rfl,rfl⟩
  · obtain ⟨b,l,e,hb⟩:=eO n (by omega)
    exact ⟨b,l,e,by rw [hb];rfl⟩
 obtain ⟨b,l,e,h48⟩:=hh
 rw [e] at ha hv ⊢
 have hd:=ha b (A9 ..)
 simp only [Db] at hd
 have hdn:=hd
 simp only [GM,AK,decide_eq_true_eq] at hdn
 have ht:=XA ha (aL hr)
 refine T3 ?_ (fun c l' e'=>?_)
 · rw [AU] at ht ⊢
   have hlu:¬(Ni b.toNat||Mc b.toNat)=true:=by
    simp only [Ni,Mc,BE,AK,decide_eq_true_eq];omega
   rw [Cc,if_neg hlu,if_pos hd,ht,h48,if_neg (by decide),hv];rfl
 · cases e'
   refine ⟨?_,?_⟩
   · simp only [TA,GP]
     refine ⟨⟨⟨?_,?_⟩,?_⟩,?_⟩<;>(apply eK;omega)
   · cases hb:(b==35) with
     |false=>rfl
     |true=>
      rw [beq_iff_eq] at hb;subst hb
      exact absurd hdn.1 (by decide)
def SQ (u:Int):List KT:=if u < 0 then [(5,[45]),(3,Lib.decDigits u.natAbs)] else [(3,Lib.decDigits u.toNat)]
theorem Zp {u:Int} (h1: -1000000≤u) (h2:u≤1000000):EE (Lib.itoa u) (SQ u):=by
 unfold Lib.itoa SQ
 split
 · rename_i h
   intro rest hr
   refine HF.trans (s1:=[45]) (k1:=[(5,[45])]) (Sm 45 (.inl rfl) ?_) (fE (by omega) rest hr)
   intro c l e
   have hall:∀x:UInt8,Db GM x=true→(x==61)=false∧(x==62)=false:=fun x hx=>by
    simp only [Db,GM,AK,decide_eq_true_eq] at hx
    constructor
    · cases hb:(x==61) with
      |false=>rfl
      |true=>rw [beq_iff_eq] at hb;subst hb;exact absurd hx.2 (by decide)
    · cases hb:(x==62) with
      |false=>rfl
      |true=>rw [beq_iff_eq] at hb;subst hb;exact absurd hx.2 (by decide)
   obtain ⟨b,l2,e2⟩:∃b l2,Lib.decDigits u.natAbs=b::l2:=by
    obtain ⟨b,l2,e2,_⟩:=eO u.natAbs (by omega)
    exact ⟨b,l2,e2⟩
   have hb:=hall b (bX u.natAbs b (by rw [e2];exact A9 ..))
   rw [e2] at e
   cases e
   exact hb
 · exact fE (by omega)
theorem Uc {s:Str} (h:upperB s=true):∃b r,s=b::r∧Mc b.toNat=true∧(∀x∈b::r,Db Iy x=true)∧(b::r).length≤24:=by
 rw [upperB,PB] at h
 simp only [AK,beq_iff_eq] at h
 obtain ⟨h0,h1,h2⟩:=h
 rw [Ao] at h0 h1 h2
 split at h0
 · cases h0
 · rename_i hle
   rw [if_neg hle] at h1 h2
   match s,h0,h1,h2 with
   |[],_,h1,_=>simp [Cd] at h1
   |b::r,h0,h1,h2=>
    rw [show (b::r).length+1=(r.length+1)+1 from rfl] at h0 h1 h2
    rw [Cd] at h0 h1 h2
    have hsm:∀(n:Nat) (rest:Str) (i:Nat),rest.length < (b::r).length→(Cd n rest i []).2.2=0→(Cd n rest i []).1.length=2→(match (Cd n rest i []).1 with|[]=>false|a::_=>a.kind==2&&a.text==b::r)=true→False:=by
     intro n rest i hlt g0 g1 g2
     rcases Jd n rest i [] g0 with h|⟨tl,h,hm⟩
     · rw [h] at g1;cases g1
     · rw [h,A6] at g1 g2
       cases tl with
       |nil=>cases g1
       |cons a tl=>
        simp only [AK,beq_iff_eq] at g2
        have:=hm a (A9 ..)
        rw [g2.2] at this
        omega
    split at h0
    · rename_i hb
      rw [if_pos hb] at h1 h2
      exact (hsm _ _ _ (by simp) h0 h1 h2).elim
    · rename_i hb
      rw [if_neg hb] at h1 h2
      split at h0
      · rename_i hc
        rw [if_pos hc] at h1 h2
        refine (hsm _ _ _ ?_ h0 h1 h2).elim
        rw [beq_iff_eq] at hc
        subst hc
        have:1≤cmt (35::r):=by simp [cmt]
        rw [Ad];simp only [AD];omega
      · rename_i hc
        rw [if_neg hc] at h1 h2
        cases hs:Cc (b::r) with
        |error e=>
         rw [hs] at h0
         rcases MQ hs with rfl|rfl<;>cases h0
        |ok x=>
         obtain ⟨k,t⟩:=x
         rw [hs] at h0 h1 h2
         rcases Jd _ _ _ _ h0 with h|⟨tl,h,hm⟩
         · rw [h] at h1;cases h1
         · rw [h] at h2
           replace h2:(k==2&&t==b::r)=true:=h2
           rw [AK,beq_iff_eq,beq_iff_eq] at h2
           obtain ⟨rfl,rfl⟩:=h2
           rw [Cc] at hs
           split at hs
           · split at hs
             · cases hs
             · rename_i hlen
               split at hs
               · rename_i hup
                 simp only [D2,BH,true_and] at hs
                 rw [hs] at hlen
                 exact ⟨b,r,rfl,hup,takeWhile_eq hs,by simpa using hlen⟩
               · split at hs<;>cases hs
           · split at hs
             · split at hs
               · cases hs
               · split at hs<;>cases hs
             · split at hs<;>cases hs
theorem Nh {s:Str} (h:upperB s=true):EE s [(2,s)]:=by
 obtain ⟨b,r,rfl,h1,h2,h3⟩:=Uc h
 have:=T4 (b:=b) (r:=r) (by rw [h1,NO]) h2 h3
 rw [h1,if_pos rfl] at this
 exact this
def shK (s:Str):List KT:=if s=[] then [(5,[95])] else [(1,s)]
theorem UN {s:Str} (h:Gp s=true):EE (shown s) (shK s):=by
 unfold shown shK
 split
 · exact (GC [95] (by decide) (by decide)).s
 · rename_i hs
   simp only [Gp,BE,beq_iff_eq] at h
   rcases h with h|h
   · exact absurd h hs
   · exact MH h
def cmK (l:List (List KT)):List KT:=[(5,[44])].intercalate l
def HV (k:List KT):List KT:=(5,[40])::(k++[(5,[41])])
def T8 (l:List (List KT)):List KT:=if l=[] then [] else HV (cmK l)
def Kn (l:List (List KT)):List KT:=HV (cmK l)
theorem eV {α:Type} (sep x:List α):sep.intercalate [x]=x:=by simp [List.intercalate]
theorem Yc {α:Type} (sep x y:List α) (l:List (List α)):sep.intercalate (x::y::l)=x++(sep++sep.intercalate (y::l)):=by
 simp [List.intercalate,List.intersperse]
theorem T0 {α:Type} {sep:Str} {ks:List KT} (hs:FA sep ks) (hst:Ml sep=true) (hne:sep≠[]) (f:α→Str) (g:α→List KT):∀l:List α,(∀x∈l,EE (f x) (g x))→EE (Lib.join (l.map f) sep) (ks.intercalate (l.map g))
 |[],_=>FA.nil.s
 |[x],h=>by
  simp only [Lib.join,AE,AH,eV]
  exact h x (A9 ..)
 |x::y::l,h=>by
  have ih:=T0 hs hst hne f g (y::l) (fun z hz=>h z (Ae _ hz))
  simp only [Lib.join,AE,Yc] at ih ⊢
  exact (h x (A9 ..)).ss (Wp hst hne) (hs.ss ih)
theorem iR:FA [44,32] [(5,[44])]:=(GC [44] (by decide) (by decide)).a HC
theorem lY:FA [40] [(5,[40])]:=GC _ (by decide) (by decide)
theorem mC:FA [41] [(5,[41])]:=GC _ (by decide) (by decide)
theorem T2 {s:Str} {k:List KT} (h:EE s k):FA (If s) (HV k):=lY.a (h.a rfl (by decide) mC)
theorem fB {α:Type} (f:α→Str) (g:α→List KT) (l:List α) (h:∀x∈l,EE (f x) (g x)):EE (cms (l.map f)) (cmK (l.map g)):=T0 iR rfl (by decide) f g l h
theorem RR {α:Type} (f:α→Str) (g:α→List KT) (l:List α) (h:∀x∈l,EE (f x) (g x)):FA (IE (l.map f)) (T8 (l.map g)):=by
 unfold IE T8
 cases l with
 |nil=>exact FA.nil
 |cons x l=>exact T2 (fB f g (x::l) h)
theorem T1 {α:Type} (f:α→Str) (g:α→List KT) (l:List α) (h:∀x∈l,EE (f x) (g x)):FA (ID (l.map f)) (Kn (l.map g)):=T2 (fB f g l h)
theorem MR (l:List Str) {r:Str} (hr:Ml r=true):Ml (IE l++r)=true:=by
 unfold IE;split
 · exact hr
 · rfl
theorem RQ:FA [32,45,62,32] [(5,[45,62])]:=HC.a ((GC [45,62] (by decide) (by decide)).a HC)
theorem Yj:FA [32,61,32] [(5,[61])]:=HC.a (fun rest=>(Sm 61 (.inr (.inr rfl)) (OG (rest:=32::rest) rfl)).trans (HC rest))
theorem UM {s:Str} (h:TX s=true):FA (32::(s++[32])) [(4,s)]:=HC.a ((Sd h).a rfl (by decide) HC)
theorem Od {s:Str} (h:TX s=true):FA (s++[32]) [(4,s)]:=(Sd h).a rfl (by decide) HC
theorem fC {s:Str} (h:TX s=true):EE (32::s) [(4,s)]:=HC.ss (Sd h)
end Go.Ab
namespace Go.Ab
def MU (k:Int) (n:Str) (ts:List (List KT)):List KT:=
 if k=1 then [(4,[105,110,116])] else if k=2 then [(4,[98,111,111,108])] else if k=3 then [(4,[117,110,105,116])]
                                                                                             else if k=7 then (4,[97,114,114,97,121])::T8 ts else if k=8 then (4,[114,101,102])::T8 ts
                                                                                             else if k=9 then (4,[102,110])::(Kn ts.dropLast++((5,[45,62])::ts.getLastD []))
                                                                                             else if k=4 then [(1,n)] else if k=5 then (2,n)::T8 ts else T8 ts
mutual
def HY:TE→List KT
 | .mk k n l=>MU k n (fY l)
def fY:List TE→List (List KT)
 |[]=>[]
 |t::l=>HY t::fY l
end
theorem RW:∀l:List TE,fY l=l.map HY
 |[]=>rfl
 |t::l=>by rw [fY,RW l];rfl
theorem ZA {k:Int} {n:Str} {q:Nat} (h:Ct k n q=true):k=1∨k=2∨k=3∨k=4∨k=5∨k=6∨k=7∨k=8∨k=9:=by
 unfold Ct at h
 split at h
 · omega
 · split at h
   · omega
   · split at h
     · omega
     · split at h
       · omega
       · split at h
         · omega
         · split at h
           · omega
           · cases h
theorem Se {α:Type}:∀ {l:List α},1≤l.length→∃m x,l=m++[x]
 |[],h=>by simp at h
 |[x],_=>⟨[],x,rfl⟩
 |x::y::l,_=>by
  obtain ⟨m,z,e⟩:=Se (l:=y::l) (by simp)
  exact ⟨x::m,z,by rw [e];rfl⟩
theorem mD:∀(d:Nat) (t:TE),Dc d t=true→EE (Cb t) (HY t)
 |0,.mk ..,h=>by cases h
 |d+1,.mk k n l,h=>by
  rw [Dc,AK,A4] at h
  obtain ⟨h1,h2⟩:=h
  have hl:=fun x hx=>mD d x (h2 x hx)
  rw [Cb,HY,OZ,RW]
  have ho:=RR Cb HY l hl
  have hk:=ZA h1
  rcases hk with rfl|rfl|rfl|rfl|rfl|rfl|rfl|rfl|rfl
  · exact Sd (s:=[105,110,116]) (by decide)
  · exact Sd (s:=[98,111,111,108]) (by decide)
  · exact Sd (s:=[117,110,105,116]) (by decide)
  · simp [Ct] at h1
    obtain ⟨h1,h3⟩:=h1
    subst h3
    show EE (n++[]) [(1,n)]
    rw [A0]
    exact MH h1
  · simp [Ct] at h1
    exact (Nh h1.1).ss (by have:=MR (l.map Cb) (r:=[]) rfl;rwa [A0] at this) ho.s
  · simp [Ct] at h1
    rw [h1.1.1]
    exact ho.s
  · exact (Sd (s:=[97,114,114,97,121]) (by decide)).ss (by have:=MR (l.map Cb) (r:=[]) rfl;rwa [A0] at this) ho.s
  · exact (Sd (s:=[114,101,102]) (by decide)).ss (by have:=MR (l.map Cb) (r:=[]) rfl;rwa [A0] at this) ho.s
  · simp [Ct] at h1
    obtain ⟨m,x,rfl⟩:=Se h1.1.2
    have hm:=T1 Cb HY m (fun y hy=>hl y (List.mem_append_left _ hy))
    have hx:=hl x (by simp)
    show EE ([102,110]++(ID ((m++[x]).map Cb).dropLast++([32,45,62,32]++((m++[x]).map Cb).getLastD []))) ((4,[102,110])::(Kn ((m++[x]).map HY).dropLast++((5,[45,62])::((m++[x]).map HY).getLastD [])))
    simp only [B1,AE,AH,List.dropLast_concat,List.getLastD_concat]
    exact (Sd (s:=[102,110]) (by decide)).ss rfl (hm.ss (RQ.ss hx))
def atK (l:List (List KT)) (i:Nat):List KT:=l.getD i []
def plK (d:Nat) (k:Ex) (t:List KT):List KT:=if lvl k < d then HV t else t
def xB (ks:List Ex) (ts:List (List KT)):List KT:=match ks with
 |[]=>Kn ts.tail
 |k::_=>(if Lh k then HV (atK ts 0) else plK 4 k (atK ts 0))++Kn ts.tail
def xC (u:Int) (ks:List Ex) (ts:List (List KT)):List KT:=match ks with
 |[a,b]=>plK (if EY u=1 then 2 else EY u) a (atK ts 0)++((5,opT u)::plK (if EY u=1 then 2 else EY u+1) b (atK ts 1))
 |_=>[]
def tkN (o:Int) (n:Str) (u:Int) (ns:List Str) (ks:List Ex) (ts:List (List KT)) (aks:List (List KT)):List KT:=
 if o=7 then (4,[108,101,116])::(shK n++((5,[61])::(atK ts 0++((4,[105,110])::atK ts 1))))
                                                                 else if o=8 then (4,[108,101,116])::(T8 (ns.map shK)++((5,[61])::(atK ts 0++((4,[105,110])::atK ts 1))))
                                                                 else if o=9 then (4,[105,102])::(atK ts 0++((4,[116,104,101,110])::(atK ts 1++((4,[101,108,115,101])::atK ts 2))))
                                                                 else if o=10 then (4,[109,97,116,99,104])::(atK ts 0++((4,[119,105,116,104])::([(5,[124])].intercalate aks++[(4,[101,110,100])])))
                                                                 else if o=11 then (4,[102,110])::(Kn (ns.map fun s=>[(1,s)])++((5,[45,62])::atK ts 0))
                                                                 else if o=17 then (4,[116,114,121])::(atK ts 0++((4,[99,97,116,99,104])::(shK n++((5,[45,62])::(atK ts 1++[(4,[101,110,100])])))))
                                                                 else if o=13 then xC u ks ts
                                                                 else if o=12 then xB ks ts
                                                                 else if o=1 then [(5,[40]),(5,[41])]
                                                                 else if o=2 then (if u=1 then [(4,[116,114,117,101])] else [(4,[102,97,108,115,101])])
                                                                 else if o=3 then SQ u
                                                                 else if o=5 then Kn ts
                                                                 else if o=14 then (4,prT u)::Kn ts
                                                                 else if o=16 then (4,[114,97,105,115,101])::Kn ts
                                                                 else if o=15 then (4,[116,105,99,107])::HV (SQ u)
                                                                 else if o=4 then [(1,n)]
                                                                 else (2,n)::T8 ts
def uR (c:Str) (vs:List Str) (b:List KT):List KT:=(2,c)::(T8 (vs.map shK)++((5,[45,62])::b))
mutual
def tkE:Ex→List KT
 | .mk o n u ns ks al=>tkN o n u ns ks (rH ks) (rG al)
def rH:List Ex→List (List KT)
 |[]=>[]
 |t::l=>tkE t::rH l
def tkA:Al→List KT
 | .mk c vs b=>uR c vs (tkE b)
def rG:List Al→List (List KT)
 |[]=>[]
 |t::l=>tkA t::rG l
end
theorem MT:∀l:List Ex,rH l=l.map tkE
 |[]=>rfl
 |t::l=>by rw [rH,MT l];rfl
theorem MS:∀l:List Al,rG l=l.map tkA
 |[]=>rfl
 |t::l=>by rw [rG,MS l];rfl
theorem fI {o u:Int} {q:Nat} (h:nkB o u q=true):o=1∨o=2∨o=3∨o=4∨o=5∨o=6∨o=7∨o=8∨o=9∨o=10∨o=11∨o=12∨o=13∨o=14∨o=15∨o=16∨o=17:=by
 unfold nkB at h
 repeat' (split at h)
 all_goals first|omega|cases h
theorem cL {d:Nat} {k:Ex} {t:Str} {q:List KT} (h:EE t q):EE (pl d k t) (plK d k q):=by
 unfold pl plK
 split
 · exact (T2 h).s
 · exact h
theorem Xh {l:List Str} (h:l.all Gp=true):∀s∈l,EE (shown s) (shK s):=fun s hs=>UN (A4.1 h s hs)
theorem tZ {u:Int} (h1:1≤u) (h2:u≤8):EE (opT u) [(5,opT u)]:=by
 have h:u=1∨u=2∨u=3∨u=4∨u=5∨u=6∨u=7∨u=8:=by omega
 rcases h with rfl|rfl|rfl|rfl|rfl|rfl|rfl|rfl
 · exact (GC [43] (by decide) (by decide)).s
 · exact fun r hr=>Sm 45 (.inl rfl) (OG hr)
 · exact (GC [42] (by decide) (by decide)).s
 · exact (GC [47] (by decide) (by decide)).s
 · exact (GC [37] (by decide) (by decide)).s
 · exact fun r hr=>Sm 60 (.inr (.inl rfl)) (OG hr)
 · exact (GC [60,61] (by decide) (by decide)).s
 · exact (GC [61,61] (by decide) (by decide)).s
theorem mA {u:Int}:EE (prT u) [(4,prT u)]:=by
 unfold prT
 repeat' split
 all_goals exact Sd (by decide)
theorem VH {α:Type} {l:List α} (h:l.length=1):∃a,l=[a]:=by
 match l,h with
 |[a],_=>exact ⟨a,rfl⟩
theorem Re {α:Type} {l:List α} (h:l.length=2):∃a b,l=[a,b]:=by
 match l,h with
 |[a,b],_=>exact ⟨a,b,rfl⟩
theorem cJ {α:Type} {l:List α} (h:l.length=3):∃a b c,l=[a,b,c]:=by
 match l,h with
 |[a,b,c],_=>exact ⟨a,b,c,rfl⟩
theorem l9 (o:Int) (n:Str) (u:Int) (ns:List Str) (ks:List Ex) (al:List Al) (hn:Gc o n u ns ks.length al=true) (hk:∀x∈ks,EE (Ax x) (tkE x)) (ha:∀x∈al,EE (Lv x) (tkA x)):EE (Ax (.mk o n u ns ks al)) (tkE (.mk o n u ns ks al)):=by
 simp only [Gc,AK] at hn
 obtain ⟨⟨⟨⟨hnm,hnu⟩,hns⟩,has⟩,hnk⟩:=hn
 rw [Ax,tkE,Le,MT,UD,MS]
 have hl:=T1 Ax tkE ks hk
 have ho:=RR Ax tkE ks hk
 rcases fI hnk with rfl|rfl|rfl|rfl|rfl|rfl|rfl|rfl|rfl|rfl|rfl|rfl|rfl|rfl|rfl|rfl|rfl
 · exact (lY.a mC).s
 · show EE (if u=1 then [116,114,117,101] else [102,97,108,115,101]) (if u=1 then [(4,[116,114,117,101])] else [(4,[102,97,108,115,101])])
   split
   · exact Sd (by decide)
   · exact Sd (by decide)
 · simp [nuB] at hnu
   exact Zp hnu.1 hnu.2
 · have:ks=[]:=by simpa [nkB] using hnk
   subst this
   show EE (n++[]) [(1,n)]
   rw [A0]
   exact MH (by simpa [nmB] using hnm)
 · exact hl.s
 · exact (Nh (by simpa [nmB] using hnm)).ss (by have:=MR (ks.map Ax) (r:=[]) rfl;rwa [A0] at this) ho.s
 · obtain ⟨a,b,rfl⟩:=Re (by simpa [nkB] using hnk)
   exact (Od (s:=[108,101,116]) (by decide)).ss ((UN (by simpa [nmB] using hnm)).ss rfl (Yj.ss ((hk a (by simp)).ss rfl ((UM (s:=[105,110]) (by decide)).ss (hk b (by simp))))))
 · obtain ⟨a,b,rfl⟩:=Re (by simpa [nkB] using hnk)
   simp only [nsB,if_true,AK] at hns
   exact (Od (s:=[108,101,116]) (by decide)).ss ((RR shown shK ns (Xh hns.2)).ss (Yj.ss ((hk a (by simp)).ss rfl ((UM (s:=[105,110]) (by decide)).ss (hk b (by simp))))))
 · obtain ⟨a,b,c,rfl⟩:=cJ (by simpa [nkB] using hnk)
   exact (Od (s:=[105,102]) (by decide)).ss ((hk a (by simp)).ss rfl ((UM (s:=[116,104,101,110]) (by decide)).ss ((hk b (by simp)).ss rfl ((UM (s:=[101,108,115,101]) (by decide)).ss (hk c (by simp))))))
 · obtain ⟨a,rfl⟩:=VH (by simpa [nkB] using hnk)
   have hj:=T0 (sep:=[32,124,32]) (ks:=[(5,[124])]) (HC.a ((GC [124] (by decide) (by decide)).a HC)) rfl (by decide) Lv tkA al ha
   exact (Od (s:=[109,97,116,99,104]) (by decide)).ss ((hk a (by simp)).ss rfl ((UM (s:=[119,105,116,104]) (by decide)).ss (hj.ss rfl (fC (s:=[101,110,100]) (by decide)))))
 · obtain ⟨a,rfl⟩:=VH (by simpa [nkB] using hnk)
   simp [nsB] at hns
   have hp:=T1 id (fun s=>[(1,s)]) ns (fun s hs=>MH (hns.2 s hs))
   rw [List.map_id] at hp
   exact (Sd (s:=[102,110]) (by decide)).ss rfl (hp.ss (RQ.ss (hk a (by simp))))
 · cases ks with
   |nil=>simp [nkB] at hnk
   |cons f l=>
    have hl2:=T1 Ax tkE l (fun x hx=>hk x (Ae _ hx))
    have hf:=hk f (A9 ..)
    show EE ((if Lh f then If (Ax f) else pl 4 f (Ax f))++ID (l.map Ax)) ((if Lh f then HV (tkE f) else plK 4 f (tkE f))++Kn (l.map tkE))
    refine EE.ss ?_ rfl hl2.s
    split
    · exact (T2 hf).s
    · exact cL hf
 · obtain ⟨a,b,rfl⟩:=Re (by simpa [nkB] using hnk)
   simp [nuB] at hnu
   exact (cL (hk a (by simp))).ss rfl (HC.ss ((tZ hnu.1 hnu.2).ss rfl (HC.ss (cL (hk b (by simp))))))
 · exact (mA (u:=u)).ss rfl hl.s
 · simp [nuB] at hnu
   exact (Sd (s:=[116,105,99,107]) (by decide)).ss rfl (T2 (Zp (by omega) (by omega))).s
 · exact (Sd (s:=[114,97,105,115,101]) (by decide)).ss rfl hl.s
 · obtain ⟨a,b,rfl⟩:=Re (by simpa [nkB] using hnk)
   exact (Od (s:=[116,114,121]) (by decide)).ss ((hk a (by simp)).ss rfl ((UM (s:=[99,97,116,99,104]) (by decide)).ss ((UN (by simpa [nmB] using hnm)).ss rfl (RQ.ss ((hk b (by simp)).ss rfl (fC (s:=[101,110,100]) (by decide)))))))
theorem bH {o:Int} {al:List Al} (h:asB o al=true):∀a∈al,SX a=true:=fun a ha=>by
 unfold asB at h
 split at h
 · simp only [AK,A4] at h;exact h.2 a ha
 · have:al=[]:=by simpa using h
   rw [this] at ha;cases ha
mutual
theorem cK:∀(e:Ex),e.nb→EE (Ax e) (tkE e)
 | .mk o n u ns ks al,h=>by
  rw [Ex.nb] at h
  have h4:=h.1
  simp only [Gc,AK] at h4
  exact l9 o n u ns ks al h.1 (fD ks h.2.1) (e5 al h.2.2 (bH h4.1.2))
theorem fD:∀(l:List Ex),Ex.nbs l→∀x∈l,EE (Ax x) (tkE x)
 |[],_,x,hx=>by cases hx
 |k::l,h,x,hx=>by
  rw [Ex.nbs] at h
  have h1:=cK k h.1
  have h2:=fD l h.2
  rcases Bm.1 hx with rfl|hx
  · exact h1
  · exact h2 x hx
theorem tY:∀(a:Al),a.nb→SX a=true→EE (Lv a) (tkA a)
 | .mk c vs b,h,ha=>by
  rw [Al.nb] at h
  simp only [SX,AK] at ha
  rw [Lv,tkA]
  exact (Nh ha.1.1).ss (MR _ rfl) ((RR shown shK vs (Xh ha.2)).ss (RQ.ss (cK b h)))
theorem e5:∀(l:List Al),Al.nbs l→(∀a∈l,SX a=true)→∀x∈l,EE (Lv x) (tkA x)
 |[],_,_,x,hx=>by cases hx
 |k::l,h,ha,x,hx=>by
  rw [Al.nbs] at h
  have h1:=tY k h.1 (ha _ (A9 ..))
  have h2:=e5 l h.2 (fun a h=>ha a (Ae _ h))
  rcases Bm.1 hx with rfl|hx
  · exact h1
  · exact h2 x hx
end
def tkC (c:CE):List KT:=(2,c.name)::T8 (c.args.map HY)
def tkD (d:DE):List KT:=(4,[100,97,116,97])::(2,d.name)::(T8 (d.vars.map fun s=>[(1,s)])++((5,[61])::([(5,[124])].intercalate (d.cons.map tkC)++[(5,[59])])))
def tkF (f:FE):List KT:=(4,[102,117,110])::(1,f.name)::(Kn (f.params.map fun s=>[(1,s)])++((5,[61])::(tkE f.body++[(5,[59])])))
def tkP (p:Pg):List KT:=(p.data.map tkD).flatten++(p.R4.map tkF).flatten
theorem Zq:FA [59,10] [(5,[59])]:=(GC [59] (by decide) (by decide)).a lZ
theorem pS {c:CE} (h:UA c=true):EE (fmtC c) (tkC c):=by
 simp only [UA,AK,A4] at h
 exact (Nh h.1.1).ss (by have:=MR (c.args.map Cb) (r:=[]) rfl;rwa [A0] at this) (RR Cb HY c.args (fun t ht=>mD 40 t (h.2 t ht))).s
theorem lX {d:DE} (h:IY d=true):FA (S6 d) (tkD d):=by
 simp only [IY,AK,A4] at h
 obtain ⟨⟨⟨⟨⟨h1,h2⟩,h3⟩,h4⟩,h5⟩,h6⟩:=h
 have hp:=RR id (fun s=>[(1,s)]) d.vars (fun s hs=>MH (h3 s hs))
 rw [List.map_id] at hp
 have hj:=T0 (sep:=[32,124,32]) (ks:=[(5,[124])]) (HC.a ((GC [124] (by decide) (by decide)).a HC)) rfl (by decide) fmtC tkC d.cons (fun c hc=>pS (h6 c hc))
 exact (Od (s:=[100,97,116,97]) (by decide)).a ((Nh h1).a (MR _ rfl) (by simp) (hp.a (Yj.a (hj.a rfl (by decide) Zq))))
theorem pT {f:FE} (h:Mj f=true) (hb:f.body.nb):FA (UE f) (tkF f):=by
 simp only [Mj,AK,A4] at h
 have hp:=T1 id (fun s=>[(1,s)]) f.params (fun s hs=>MH (h.2 s hs))
 rw [List.map_id] at hp
 exact (Od (s:=[102,117,110]) (by decide)).a ((MH h.1.1).a rfl (by simp [ID,If]) (hp.a (Yj.a ((cK _ hb).a rfl (by decide) Zq))))
theorem WQ {α:Type} (f:α→Str) (g:α→List KT):∀l:List α,(∀x∈l,FA (f x) (g x))→FA (l.map f).flatten (l.map g).flatten
 |[],_=>FA.nil
 |x::l,h=>(h x (A9 ..)).a (WQ f g l (fun y hy=>h y (Ae _ hy)))
theorem aS {p:Pg} (h:E6 p=true):(∀d∈p.data,IY d=true)∧∀f∈p.R4,Mj f=true∧f.body.nb:=by
 simp only [E6,AK,A4] at h
 obtain ⟨r,hr⟩:=Ux.1 h.2
 refine ⟨h.1.2,N1 p.R4 600 r (fun f _ a b hab=>?_) hr⟩
 unfold XD at hab
 split at hab
 · rename_i hh;exact ⟨hh,ZH 40 a f.body b hab⟩
 · cases hab
theorem mB {p:Pg} (h:E6 p=true):FA (XX p) (tkP p):=by
 obtain ⟨h1,h2⟩:=aS h
 exact (WQ S6 tkD p.data (fun d hd=>lX (h1 d hd))).a (WQ UE tkF p.R4 (fun f hf=>pT (h2 f hf).1 (h2 f hf).2))
theorem YK {s:Str} {ks:List KT} (h:FA s ks) (hl:s.length≤16384):(Ao s).2.2=0∧strip (Ao s).1=ks++[(6,[])]:=by
 unfold Ao
 rw [if_neg (by omega)]
 obtain ⟨n,i,acc,e1,e2,e3⟩:=h [] (s.length+1) 0 [] (by simp)
 rw [A0] at e3
 rw [e3]
 cases n with
 |zero=>simp at e2
 |succ n=>
  rw [Cd]
  refine ⟨rfl,?_⟩
  show strip (acc++[⟨6,[],i⟩])=_
  rw [strip,B1]
  rw [strip] at e1
  rw [e1];rfl
end Go.Ab
