/- The parser of the reference in plain data: its steps, and that it does what the program's parser does. Both parsers do the same, in plain data. Both parsers do the same, in plain data: expressions and programs. Valid programs, in plain data. The tokens of a text in plain data, and what both parsers make of them. Texts of programs in plain data. Names as tokens, in plain data. Conditions: none. -/
import Derived.Lib.ItoaNum
import Derived.Lib.Join
import Derived.Test.YtifplkldbbcldaaGreatDoorXTn
set_option linter.unusedSimpArgs false
set_option linter.unusedVariables false
set_option maxRecDepth 4000
set_option maxHeartbeats 8000000
open Bool renaming and_eq_true→AK,or_eq_true→BE,not_eq_true'→EM,eq_false_iff→GO,or_false→Lf,or_eq_false_iff→GP
open Nat renaming le_trans→Az
open List renaming mem_cons_self→A9,all_eq_true→A4,mem_append→BF,contains_eq_mem→Dd,takeWhile_cons→B8,length_cons→AD,length_drop→Ad,length_append→AA,length_nil→AF,mem_cons_of_mem→Ae,cons_append→AU,mem_cons→Bm,nil_append→A6
open Except.ok renaming injEq→D2
open Prod.mk renaming injEq→BH
open Option renaming bind_eq_bind→AS,bind_eq_some_iff→AB
namespace Go.Ab
structure RSt where
 r:List Tok
 b:Bool
def RSt.hd (s:RSt):Tok:=s.r.headD Sp
def RSt.adv (s:RSt):RSt:=⟨s.r.tail,s.b⟩
def RSt.is (s:RSt) (t:Str):Bool:=!s.b&&(s.hd.kind==4||s.hd.kind==5)&&s.hd.text==t
theorem q6 {s:RSt} (h:WF s.r) (hk:s.hd.kind≠6∨s.hd.text≠[]):WF s.adv.r∧s.adv.r <:+s.r:=
 RB (s:=⟨s.r,false,0⟩) h hk
theorem RSt.pG {s:RSt} {t:Str} (h:s.is t=true):s.b=false∧(s.hd.kind=4∨s.hd.kind=5)∧s.hd.text=t:=by
 simp only [RSt.is,AK,BE,beq_iff_eq,EM] at h
 exact ⟨h.1.1,h.1.2,h.2⟩
theorem RSt.tR {s:RSt} (t:Str) (h:s.b=true):s.is t=false:=by simp [RSt.is,h]
structure RM (α:Type) where
 run:RSt→α×RSt
 st:∀s,s.b=true→(run s).2=s
 sf:∀s,WF s.r→WF (run s).2.r∧(run s).2.r <:+s.r
namespace RM
variable {α β:Type}
def pure (a:α):RM α:=⟨fun s=>(a,s),fun _ _=>rfl,fun _ h=>⟨h,List.suffix_refl _⟩⟩
def bind (m:RM α) (k:α→RM β):RM β:=
 ⟨fun s=>(k (m.run s).1).run (m.run s).2,fun s h=>by
   have h1:=m.st s h
   rw [(k (m.run s).1).st _ (by rw [h1];exact h),h1],fun s h=>by
   obtain ⟨h1,h2⟩:=m.sf s h
   obtain ⟨h3,h4⟩:=(k (m.run s).1).sf _ h1
   exact ⟨h3,h4.trans h2⟩⟩
def acc (t:Str) (y n:RM α):RM α:=
 ⟨fun s=>if s.is t then y.run s.adv else n.run s,fun s h=>by
   rw [if_neg (by rw [RSt.tR t h];decide)];exact n.st s h,fun s h=>by
   split
   · rename_i e
     obtain ⟨_,hk,_⟩:=RSt.pG e
     obtain ⟨h1,h2⟩:=q6 h (.inl (by omega))
     obtain ⟨h3,h4⟩:=y.sf s.adv h1
     exact ⟨h3,h4.trans h2⟩
   · exact n.sf s h⟩
def ite (c:RSt→Bool) (y n:RM α):RM α:=
 ⟨fun s=>if c s then y.run s else n.run s,fun s h=>by
   split
   · exact y.st s h
   · exact n.st s h,fun s h=>by
   split
   · exact y.sf s h
   · exact n.sf s h⟩
def kind (k:Int) (y n:RM α):RM α:=ite (fun s=>s.hd.kind==k) y n
def bad (a:α) (n:RM α):RM α:=ite (fun s=>s.b) (pure a) n
def fail (a:α):RM α:=⟨fun s=>(a,⟨s.r,true⟩),fun ⟨r,b⟩ h=>by simp only at h;rw [h],fun _ h=>⟨h,List.suffix_refl _⟩⟩
def map (g:α→β) (m:RM α):RM β:=m.bind fun a=>pure (g a)
end RM
end Go.Ab
namespace Go.Ab
def PR:List Str:=[[45,62],[60,61],[61,61],[40],[41],[44],[61],[124],[43],[45],[42],[47],[37],[60],[59],[95]]
def Mo (s:Str):Bool:=TX s||PR.contains s
def fZ (t:Tok):Prop:=((t.kind=1∨t.kind=2∨t.kind=3)∧Mo t.text=false)∨t.kind=4∨t.kind=5∨(t.kind=6∧t.text=[])
def Tn (r:List Tok):Prop:=r.length≤17000∧∀t∈r,fZ t
theorem Tn.suf {a r:List Tok} (h:Tn r) (hs:a <:+r):Tn a:=⟨Az hs.length_le h.1,fun t ht=>h.2 t (hs.subset ht)⟩
theorem wI {r:List Tok} (hw:WF r) (h:Tn r):fZ (r.headD Sp):=by
 cases r with
 |nil=>exact hw.elim
 |cons t l=>exact h.2 t (A9 ..)
theorem nk {r:List Tok} (hw:WF r) (h:Tn r) {k:Int} (hk:k=1∨k=2∨k=3) (e:((r.headD Sp).kind==k)=true) {w:Str} (hw2:Mo w=true):((r.headD Sp).text==w)=false:=by
 rw [beq_iff_eq] at e
 rcases wI hw h with ⟨_,h2⟩|h2|h2|⟨h2,_⟩
 · rw [GO];intro hc;rw [beq_iff_eq] at hc;rw [hc,hw2] at h2;cases h2
 · omega
 · omega
 · omega
section
variable {α β:Type}
end
theorem mS {α:Type} {t:Str} {ht:t≠[]} {y n:PM α} {r:List Tok} {f:Bool} {p:Nat} (hc:((r.headD Sp).text==t)=true):(PM.acc t ht y n).run ⟨r,f,p⟩=y.run ⟨r.tail,f,p⟩:=if_pos hc
theorem Qf {α:Type} {t:Str} {ht:t≠[]} {y n:PM α} {r:List Tok} {f:Bool} {p:Nat} (hc:((r.headD Sp).text==t)=false):(PM.acc t ht y n).run ⟨r,f,p⟩=n.run ⟨r,f,p⟩:=if_neg (by rw [PSt.hd,hc];decide)
end Go.Ab
namespace Go.Ab
end Go.Ab
namespace Go.Ab
def PB (k:Int) (s:Str):Bool:=
 (Ao s).2.2==0&&((Ao s).1.length==2&&(match (Ao s).1 with|[]=>false|a::_=>a.kind==k&&a.text==s))
def Gy (s:Str):Bool:=PB 1 s
def upperB (s:Str):Bool:=PB 2 s
def Gp (s:Str):Bool:=s==[]||Gy s
def Ct (k:Int) (n:Str) (len:Nat):Bool:=
 if k=1∨k=2∨k=3 then n==[]&&decide (len=0)
                                     else if k=4 then Gy n&&decide (len=0)
                                     else if k=5 then upperB n&&decide (len≤6)
                                     else if k=6 then n==[]&&decide (2≤len)&&decide (len≤6)
                                     else if k=7∨k=8 then n==[]&&decide (len=1)
                                     else if k=9 then n==[]&&decide (1≤len)&&decide (len≤7)
                                     else false
def Dc:Nat→TE→Bool
 |0,_=>false
 |d+1,.mk k n l=>Ct k n l.length&&l.all (Dc d)
def UA (c:CE):Bool:=upperB c.name&&decide (c.args.length≤6)&&c.args.all (Dc 40)
def IY (d:DE):Bool:=upperB d.name&&decide (d.vars.length≤6)&&d.vars.all Gy&&decide (1≤d.cons.length)&&decide (d.cons.length≤8)&&d.cons.all UA
def SX:Al→Bool
 | .mk c vs _=>upperB c&&decide (vs.length≤6)&&vs.all Gp
def nmB (o:Int) (n:Str):Bool:=
 if o=4 then Gy n else if o=6 then upperB n else if o=7∨o=17 then Gp n else n==[]
def nuB (o:Int) (u:Int):Bool:=
 if o=2 then decide (0≤u)&&decide (u≤1) else if o=3 then decide (-1000000≤u)&&decide (u≤1000000) else if o=13 then decide (1≤u)&&decide (u≤8)
                                                                                                                                          else if o=14 then decide (1≤u)&&decide (u≤7) else if o=15 then decide (-1000≤u)&&decide (u≤1000) else u==0
def nsB (o:Int) (ns:List Str):Bool:=
 if o=8 then decide (2≤ns.length)&&decide (ns.length≤6)&&ns.all Gp else if o=11 then decide (ns.length≤6)&&ns.all Gy else decide (ns.length=0)
def asB (o:Int) (al:List Al):Bool:=
 if o=10 then decide (1≤al.length)&&al.all SX else decide (al.length=0)
def Hw (u:Int):Nat:=if u=1∨u=2∨u=7 then 2 else if u=3 then 3 else if u=4∨u=5∨u=6 then 1 else 0
def nkB (o u:Int) (nk:Nat):Bool:=
 if o=1∨o=2∨o=3∨o=4∨o=15 then decide (nk=0)
                                       else if o=5 then decide (2≤nk)&&decide (nk≤6)
                                       else if o=6 then decide (nk≤6)
                                       else if o=7∨o=8∨o=13∨o=17 then decide (nk=2)
                                       else if o=9 then decide (nk=3)
                                       else if o=10∨o=11∨o=16 then decide (nk=1)
                                       else if o=12 then decide (1≤nk)&&decide (nk≤7)
                                       else if o=14 then decide (nk=Hw u)
                                       else false
def Gc (o:Int) (n:Str) (u:Int) (ns:List Str) (nk:Nat) (al:List Al):Bool:=
 nmB o n&&nuB o u&&nsB o ns&&asB o al&&nkB o u nk
def vEx:Nat→Nat→Ex→Option Nat
 |0,_,_=>none
 |d+1,q,.mk o n u ns ks al=>
  match q with
  |0=>none
  |q+1=>if Gc o n u ns ks.length al then (ks.foldlM (fun q e=>vEx d q e) q).bind fun q=>al.foldlM (fun q a=>match a with| .mk _ _ b=>vEx d q b) q else none
def Mj (f:FE):Bool:=Gy f.name&&decide (f.params.length≤6)&&f.params.all Gy
def XD (q:Nat) (f:FE):Option Nat:=if Mj f then vEx 40 q f.body else none
def E6 (p:Pg):Bool:=decide (p.data.length≤12)&&decide (p.R4.length≤24)&&p.data.all IY&&(p.R4.foldlM XD 600).isSome
end Go.Ab
namespace Go.Ab
theorem RX {w:Str} (h:Mo w=true):∃b l,w=b::l∧Mc b.toNat=false∧GM b.toNat=false∧(Ni b.toNat=true→TX w=true):=by
 have h0:∀w∈MG++PR,∃b l,w=b::l∧Mc b.toNat=false∧GM b.toNat=false:=by
  have:(MG++PR).all (fun w=>match w with|[]=>false|b::_=>!Mc b.toNat&& !GM b.toNat)=true:=by decide
  intro w hw
  have:=A4.1 this w hw
  match w,this with
  |b::l,this=>
   simp only [AK,EM] at this
   exact ⟨b,l,rfl,this.1,this.2⟩
 have h1:∀w∈PR,∀b l,w=b::l→Ni b.toNat=false:=by
  have:PR.all (fun w=>match w with|[]=>false|b::_=>!Ni b.toNat)=true:=by decide
  intro w hw b l e
  have:=A4.1 this w hw
  subst e
  simpa using this
 simp only [Mo,BE] at h
 have hm:w∈MG++PR:=by
  rw [BF]
  rcases h with h|h
  · left
    simp only [TX,List.any_eq_true,beq_iff_eq] at h
    obtain ⟨x,hx,rfl⟩:=h
    exact hx
  · right;simpa [Dd] using h
 obtain ⟨b,l,e,h2,h3⟩:=h0 w hm
 refine ⟨b,l,e,h2,h3,fun hl=>?_⟩
 rcases h with h|h
 · exact h
 · have:=h1 w (by simpa [Dd] using h) b l e
   rw [hl] at this;cases this
def inner (t:Tok):Prop:=fZ t∧t.kind≠6∧t.text≠[]
theorem Wh {s:Str} {k:Int} {t:Str} (i:Nat) (h:Cc s= .ok (k,t)):inner ⟨k,t,i⟩:=by
 have hl:=(OB h).1
 have hne:t≠[]:=by rintro rfl;simp at hl
 match s,h with
 |b::r,h=>
  have hhd:∀p:UInt8→Bool,∀u,(b::r).takeWhile p=u→u≠[]→∃l,u=b::l:=fun p u hu hn=>by
   rw [B8] at hu
   split at hu
   · exact ⟨_,hu.symm⟩
   · exact absurd hu.symm hn
  simp only [Cc] at h
  split at h
  · rename_i hlu
    split at h
    · cases h
    · split at h
      · rename_i hup
        simp only [D2,BH] at h
        obtain ⟨rfl,hq⟩:=h
        obtain ⟨l,rfl⟩:=hhd _ _ hq hne
        refine ⟨.inl ⟨.inr (.inl rfl),?_⟩,fun h6=>absurd h6 (by simp),hne⟩
        rw [GO]
        intro hw
        obtain ⟨c,l',e,h1,_⟩:=RX hw
        simp only at e
        cases e
        rw [hup] at h1;cases h1
      · split at h
        · simp only [D2,BH] at h
          obtain ⟨rfl,hq⟩:=h
          exact ⟨.inr (.inl rfl),fun h6=>absurd h6 (by simp),hne⟩
        · rename_i hup hk
          simp only [D2,BH] at h
          obtain ⟨rfl,hq⟩:=h
          rw [hq] at hk
          obtain ⟨l,rfl⟩:=hhd _ _ hq hne
          refine ⟨.inl ⟨.inl rfl,?_⟩,fun h6=>absurd h6 (by simp),hne⟩
          rw [GO]
          intro hw
          obtain ⟨c,l',e,_,_,h2⟩:=RX hw
          simp only at e h2
          cases e
          rw [Bool.not_eq_true] at hup
          rw [hup,Lf] at hlu
          exact hk (h2 hlu)
  · split at h
    · rename_i hd
      split at h
      · cases h
      · split at h
        · simp only [D2,BH] at h
          obtain ⟨rfl,hq⟩:=h
          obtain ⟨l,rfl⟩:=hhd _ _ hq hne
          refine ⟨.inl ⟨.inr (.inr rfl),?_⟩,fun h6=>absurd h6 (by simp),hne⟩
          rw [GO]
          intro hw
          obtain ⟨c,l',e,_,h1,_⟩:=RX hw
          simp only at e
          cases e
          rw [hd] at h1;cases h1
        · cases h
    · split at h
      · cases h
      · simp only [D2,BH] at h
        obtain ⟨rfl,hq⟩:=h
        exact ⟨.inr (.inr (.inl rfl)),fun h6=>absurd h6 (by simp),hne⟩
theorem Tf:∀(n:Nat) (rest:Str) (i:Nat) (acc:List Tok),(∀t∈acc,inner t)→(Cd n rest i acc).2.2=0→rest.length < n→∃l e,(Cd n rest i acc).1=l++[⟨6,[],e⟩]∧(∀t∈l,inner t)∧l.length≤acc.length+rest.length
 |0,rest,i,acc,_,_,hn=>by omega
 |n+1,[],i,acc,ha,_,_=>⟨acc,i,rfl,ha,Nat.le_add_right _ _⟩
 |n+1,b::r,i,acc,ha,h,hn=>by
  simp only [AD] at hn
  rw [Cd] at h ⊢
  split at h
  · rename_i hb
    rw [if_pos hb]
    obtain ⟨l,e,h1,h2,h3⟩:=Tf n r (i+1) acc ha h (by omega)
    exact ⟨l,e,h1,h2,by simp only [AD];omega⟩
  · rename_i hb
    rw [if_neg hb]
    split at h
    · rename_i hc
      rw [if_pos hc]
      rw [beq_iff_eq] at hc
      subst hc
      have:1≤cmt (35::r):=by simp [cmt]
      obtain ⟨l,e,h1,h2,h3⟩:=Tf n _ _ acc ha h (by rw [Ad];simp only [AD];omega)
      exact ⟨l,e,h1,h2,by rw [Ad] at h3;simp only [AD] at h3 ⊢;omega⟩
    · rename_i hc
      rw [if_neg hc]
      cases hs:Cc (b::r) with
      |error e=>
       rw [hs] at h
       simp only at h
       rcases MQ hs with rfl|rfl<;>cases h
      |ok x=>
       obtain ⟨k,t⟩:=x
       rw [hs] at h
       simp only at h ⊢
       have hl:=OB hs
       obtain ⟨l,e,h1,h2,h3⟩:=Tf n _ _ _ (fun u hu=>by
        rcases BF.1 hu with hu|hu
        · exact ha u hu
        · simp at hu;subst hu;exact Wh i hs) h (by rw [Ad];simp only [AD] at hl ⊢;omega)
       exact ⟨l,e,h1,h2,by rw [AA,Ad] at h3;simp only [AD,AF] at h3 hl ⊢;omega⟩
theorem oC:∀ {l:List Tok} {e:Nat},(∀t∈l,inner t)→WF (l++[⟨6,[],e⟩])∧∀t∈l++[⟨6,[],e⟩],fZ t
 |[],e,_=>⟨⟨rfl,rfl⟩,fun t ht=>(by simp at ht;subst ht;exact .inr (.inr (.inr ⟨rfl,rfl⟩)))⟩
 |t::l,e,h=>by
  obtain ⟨h1,h2⟩:=oC (l:=l) (e:=e) (fun u hu=>h u (Ae _ hu))
  have ht:=h t (A9 ..)
  refine ⟨?_,fun u hu=>?_⟩
  · rw [AU]
    cases hl:l++[(⟨6,[],e⟩:Tok)] with
    |nil=>simp at hl
    |cons u m=>rw [hl] at h1;exact ⟨ht.2,h1⟩
  · rw [AU] at hu
    rcases Bm.1 hu with rfl|hu
    · exact ht.1
    · exact h2 u hu
theorem aJ {s:Str} (h:(Ao s).2.2=0):WF (Ao s).1∧Tn (Ao s).1:=by
 unfold Ao at h ⊢
 split at h
 · cases h
 · rename_i hl
   rw [if_neg hl]
   obtain ⟨l,e,h1,h2,h3⟩:=Tf (s.length+1) s 0 [] (fun t ht=>by cases ht) h (by omega)
   rw [h1]
   obtain ⟨w1,w2⟩:=oC (l:=l) (e:=e) h2
   refine ⟨w1,?_,w2⟩
   rw [AA];simp only [AF,AD] at h3 ⊢;omega
noncomputable def Dg (s:Str):Pg×Nat×Int:=
 if (Ao s).2.2≠0 then (⟨[],[]⟩,(Ao s).2.1,(Ao s).2.2)
                                            else if (KY.run ⟨(Ao s).1,false,0⟩).2.f then (⟨[],[]⟩,(KY.run ⟨(Ao s).1,false,0⟩).2.p,2)
                                            else if E6 (KY.run ⟨(Ao s).1,false,0⟩).1 then ((KY.run ⟨(Ao s).1,false,0⟩).1,0,0) else (⟨[],[]⟩,0,9)
end Go.Ab
namespace Go.Ab
mutual
def Ex.nb:Ex→Prop
 | .mk o n u ns ks al=>Gc o n u ns ks.length al=true∧Ex.nbs ks∧Al.nbs al
def Ex.nbs:List Ex→Prop
 |[]=>True
 |t::l=>t.nb∧Ex.nbs l
def Al.nb:Al→Prop
 | .mk _ _ b=>b.nb
def Al.nbs:List Al→Prop
 |[]=>True
 |t::l=>t.nb∧Al.nbs l
end
theorem Ex.Mk:∀ {l:List Ex},Ex.nbs l↔∀t∈l,t.nb
 |[]=>by simp [Ex.nbs]
 |t::l=>by simp [Ex.nbs,Ex.Mk (l:=l)]
theorem Al.Mk:∀ {l:List Al},Al.nbs l↔∀t∈l,t.nb
 |[]=>by simp [Al.nbs]
 |t::l=>by simp [Al.nbs,Al.Mk (l:=l)]
theorem N1 {α:Type} {f:Nat→α→Option Nat} {Q:α→Prop}:∀(l:List α) (q r:Nat),(∀x∈l,∀a b,f a x=some b→Q x)→l.foldlM f q=some r→∀x∈l,Q x
 |[],_,_,_,_,x,hx=>by cases hx
 |y::l,q,r,hf,h,x,hx=>by
  rw [List.foldlM_cons,AS,AB] at h
  obtain ⟨b,hb,h⟩:=h
  rcases Bm.1 hx with rfl|hx
  · exact hf _ (A9 ..) q b hb
  · exact N1 l b r (fun z hz=>hf z (Ae _ hz)) h x hx
theorem ZH:∀(d q:Nat) (e:Ex) (r:Nat),vEx d q e=some r→e.nb
 |0,q,.mk ..,r,h=>by simp [vEx] at h
 |d+1,0,.mk ..,r,h=>by cases h
 |d+1,q+1,.mk o n u ns ks al,r,h=>by
  simp only [vEx] at h
  split at h
  · rename_i hn
    rw [AB] at h
    obtain ⟨c,hc,h⟩:=h
    rw [Ex.nb,Ex.Mk,Al.Mk]
    refine ⟨hn,N1 ks q c (fun x _ a b hab=>ZH d a x b hab) hc,N1 al c r (fun x _ a b hab=>?_) h⟩
    obtain ⟨cc,vs,bd⟩:=x
    rw [Al.nb]
    exact ZH d a bd b hab
  · cases h
def cms (l:List Str):Str:=Lib.join l [44,32]
def If (s:Str):Str:=40::(s++[41])
def IE (l:List Str):Str:=if l=[] then [] else If (cms l)
def ID (l:List Str):Str:=If (cms l)
def shown (s:Str):Str:=if s=[] then [95] else s
def at0 (l:List Str) (i:Nat):Str:=l.getD i []
def tyN (k:Int) (n:Str) (ts:List Str):Str:=
 if k=1 then [105,110,116] else if k=2 then [98,111,111,108] else if k=3 then [117,110,105,116]
  else if k=7 then [97,114,114,97,121]++IE ts else if k=8 then [114,101,102]++IE ts
  else if k=9 then [102,110]++(ID ts.dropLast++([32,45,62,32]++ts.getLastD []))
  else n++IE ts
mutual
def Cb:TE→Str
 | .mk k n l=>tyN k n (Y6 l)
def Y6:List TE→List Str
 |[]=>[]
 |t::l=>Cb t::Y6 l
end
theorem OZ:∀l:List TE,Y6 l=l.map Cb
 |[]=>rfl
 |t::l=>by rw [Y6,OZ l];rfl
def EY (u:Int):Nat:=if u=1∨u=2 then 2 else if u=3∨u=4∨u=5 then 3 else 1
def lvl:Ex→Nat
 | .mk o _ u _ _ _=>if o=7∨o=8∨o=9∨o=10∨o=11∨o=17 then 0 else if o=13 then EY u else if o=12 then 4 else 5
def pl (d:Nat) (k:Ex) (t:Str):Str:=if lvl k < d then If t else t
def opT (u:Int):Str:=T7 u.toNat
def prT (u:Int):Str:=if u=1 then [110,101,119] else if u=2 then [103,101,116] else if u=3 then [115,101,116] else if u=4 then [108,101,110] else if u=5 then [114,101,102] else if u=6 then [114,101,97,100] else [119,114,105,116,101]
def Lh:Ex→Bool
 | .mk o _ _ _ ks _=>o==6&&ks.isEmpty
def s9 (ks:List Ex) (ts:List Str):Str:=match ks with
 |[]=>ID ts.tail
 |k::_=>(if Lh k then If (at0 ts 0) else pl 4 k (at0 ts 0))++ID ts.tail
def tD (u:Int) (ks:List Ex) (ts:List Str):Str:=match ks with
 |[a,b]=>pl (if EY u=1 then 2 else EY u) a (at0 ts 0)++(32::(opT u++(32::pl (if EY u=1 then 2 else EY u+1) b (at0 ts 1))))
 |_=>[]
def OU (o:Int) (n:Str) (u:Int) (ns:List Str) (ks:List Ex) (ts:List Str) (as':List Str):Str:=
 if o=7 then [108,101,116,32]++(shown n++([32,61,32]++(at0 ts 0++([32,105,110,32]++at0 ts 1))))
                                                                   else if o=8 then [108,101,116,32]++(IE (ns.map shown)++([32,61,32]++(at0 ts 0++([32,105,110,32]++at0 ts 1))))
                                                                   else if o=9 then [105,102,32]++(at0 ts 0++([32,116,104,101,110,32]++(at0 ts 1++([32,101,108,115,101,32]++at0 ts 2))))
                                                                   else if o=10 then [109,97,116,99,104,32]++(at0 ts 0++([32,119,105,116,104,32]++(Lib.join as' [32,124,32]++[32,101,110,100])))
                                                                   else if o=11 then [102,110]++(ID ns++([32,45,62,32]++at0 ts 0))
                                                                   else if o=17 then [116,114,121,32]++(at0 ts 0++([32,99,97,116,99,104,32]++(shown n++([32,45,62,32]++(at0 ts 1++[32,101,110,100])))))
                                                                   else if o=13 then tD u ks ts
                                                                   else if o=12 then s9 ks ts
                                                                   else if o=1 then [40,41]
                                                                   else if o=2 then (if u=1 then [116,114,117,101] else [102,97,108,115,101])
                                                                   else if o=3 then Lib.itoa u
                                                                   else if o=5 then ID ts
                                                                   else if o=14 then prT u++ID ts
                                                                   else if o=16 then [114,97,105,115,101]++ID ts
                                                                   else if o=15 then [116,105,99,107]++If (Lib.itoa u)
                                                                   else n++IE ts
def alT (c:Str) (vs:List Str) (b:Str):Str:=c++(IE (vs.map shown)++([32,45,62,32]++b))
mutual
def Ax:Ex→Str
 | .mk o n u ns ks al=>OU o n u ns ks (Uk ks) (JK al)
def Uk:List Ex→List Str
 |[]=>[]
 |t::l=>Ax t::Uk l
def Lv:Al→Str
 | .mk c vs b=>alT c vs (Ax b)
def JK:List Al→List Str
 |[]=>[]
 |t::l=>Lv t::JK l
end
theorem Le:∀l:List Ex,Uk l=l.map Ax
 |[]=>rfl
 |t::l=>by rw [Uk,Le l];rfl
theorem UD:∀l:List Al,JK l=l.map Lv
 |[]=>rfl
 |t::l=>by rw [JK,UD l];rfl
def fmtC (c:CE):Str:=c.name++IE (c.args.map Cb)
def S6 (d:DE):Str:=[100,97,116,97,32]++(d.name++(IE d.vars++([32,61,32]++(Lib.join (d.cons.map fmtC) [32,124,32]++[59,10]))))
def UE (f:FE):Str:=[102,117,110,32]++(f.name++(ID f.params++([32,61,32]++(Ax f.body++[59,10]))))
def XX (p:Pg):Str:=(p.data.map S6).flatten++(p.R4.map UE).flatten
end Go.Ab
namespace Go.Ab
theorem eK {a b:Int} (h:a≠b):(a==b)=false:=by simpa using h
def uD (s:Str):Prop:=∃b r,s=b::r∧Ni b.toNat=true∧(∀x∈s,Db Iy x=true)∧s.length≤24∧TX s=false
theorem takeWhile_eq {α:Type} {p:α→Bool}:∀ {l:List α},l.takeWhile p=l→∀x∈l,p x=true
 |[],_,x,hx=>by cases hx
 |y::l,h,x,hx=>by
  rw [B8] at h
  split at h
  · rename_i hy
    rcases Bm.1 hx with rfl|hx
    · exact hy
    · exact takeWhile_eq (by simpa using h) x hx
  · cases h
theorem UO {b:UInt8} (h:Ni b.toNat=true):TA b.toNat=false∧(b==35)=false∧Mc b.toNat=false:=by
 simp only [Ni,AK,decide_eq_true_eq] at h
 refine ⟨?_,?_,?_⟩
 · simp only [TA,GP]
   refine ⟨⟨⟨?_,?_⟩,?_⟩,?_⟩<;>(apply eK;omega)
 · cases hb:(b==35) with
   |false=>rfl
   |true=>
    rw [beq_iff_eq] at hb;subst hb
    have:=h.1
    exact absurd this (by decide)
 · simp only [Mc,Bool.and_eq_false_iff,decide_eq_false_iff_not];omega
theorem Jd:∀(n:Nat) (rest:Str) (i:Nat) (acc:List Tok),(Cd n rest i acc).2.2=0→(Cd n rest i acc).1=[]∨∃tl,(Cd n rest i acc).1=acc++tl∧∀t∈tl,t.text.length≤rest.length
 |0,rest,i,acc,_=>.inl rfl
 |n+1,[],i,acc,_=>.inr ⟨[⟨6,[],i⟩],rfl,fun t ht=>by simp at ht;simp [ht]⟩
 |n+1,b::r,i,acc,h=>by
  rw [Cd] at h ⊢
  split at h
  · rename_i hb
    rw [if_pos hb]
    rcases Jd n r (i+1) acc h with h|⟨tl,h1,h2⟩
    · exact .inl h
    · exact .inr ⟨tl,h1,fun t ht=>by have:=h2 t ht;simp only [AD];omega⟩
  · rename_i hb
    rw [if_neg hb]
    split at h
    · rename_i hc
      rw [if_pos hc]
      rcases Jd n _ _ acc h with h|⟨tl,h1,h2⟩
      · exact .inl h
      · exact .inr ⟨tl,h1,fun t ht=>by have:=h2 t ht;rw [Ad] at this;omega⟩
    · rename_i hc
      rw [if_neg hc]
      cases hs:Cc (b::r) with
      |error e=>
       rw [hs] at h
       simp only at h
       rcases MQ hs with rfl|rfl<;>cases h
      |ok x=>
       obtain ⟨k,t⟩:=x
       rw [hs] at h
       simp only at h ⊢
       rcases Jd n _ _ _ h with h|⟨tl,h1,h2⟩
       · exact .inl h
       · refine .inr ⟨⟨k,t,i⟩::tl,by rw [h1];simp,fun u hu=>?_⟩
         rcases Bm.1 hu with rfl|hu
         · exact (OB hs).2
         · have:=h2 u hu;rw [Ad] at this;omega
theorem WS {s:Str} (h:Gy s=true):uD s:=by
 rw [Gy,PB] at h
 simp only [AK,beq_iff_eq] at h
 obtain ⟨h0,h1,h2⟩:=h
 rw [Ao] at h0 h1 h2
 split at h0
 · cases h0
 · rename_i hle
   rw [if_neg hle] at h1 h2
   match s,h0,h1,h2 with
   |[],_,h1,_=>simp [Cd] at h1
   |b::r,h0,h1,h2=>
    rw [show (b::r).length+1=(r.length+1)+1 from rfl] at h0 h1 h2
    rw [Cd] at h0 h1 h2
    have hsm:∀(n:Nat) (rest:Str) (i:Nat),rest.length < (b::r).length→(Cd n rest i []).2.2=0→(Cd n rest i []).1.length=2→(match (Cd n rest i []).1 with|[]=>false|a::_=>decide (a.kind=1)&&decide (a.text=b::r))=true→False:=by
     intro n rest i hlt g0 g1 g2
     rcases Jd n rest i [] g0 with h|⟨tl,h,hm⟩
     · rw [h] at g1;cases g1
     · rw [h,A6] at g1 g2
       cases tl with
       |nil=>cases g1
       |cons a tl=>
        simp only [AK,decide_eq_true_eq] at g2
        have:=hm a (A9 ..)
        rw [g2.2] at this
        omega
    have hcv:∀(l:List Tok),(match l with|[]=>false|a::_=>a.kind==1&&a.text==b::r)=true→(match l with|[]=>false|a::_=>decide (a.kind=1)&&decide (a.text=b::r))=true:=by
     intro l hl
     cases l with
     |nil=>cases hl
     |cons a l=>simpa using hl
    split at h0
    · rename_i hb
      rw [if_pos hb] at h1 h2
      exact (hsm _ _ _ (by simp) h0 h1 (hcv _ h2)).elim
    · rename_i hb
      rw [if_neg hb] at h1 h2
      split at h0
      · rename_i hc
        rw [if_pos hc] at h1 h2
        refine (hsm _ _ _ ?_ h0 h1 (hcv _ h2)).elim
        rw [beq_iff_eq] at hc
        subst hc
        have:1≤cmt (35::r):=by simp [cmt]
        rw [Ad];simp only [AD];omega
      · rename_i hc
        rw [if_neg hc] at h1 h2
        cases hs:Cc (b::r) with
        |error e=>
         rw [hs] at h0
         rcases MQ hs with rfl|rfl<;>cases h0
        |ok x=>
         obtain ⟨k,t⟩:=x
         rw [hs] at h0 h1 h2
         rcases Jd _ _ _ _ h0 with h|⟨tl,h,hm⟩
         · rw [h] at h1;cases h1
         · rw [h] at h2
           replace h2:(k==1&&t==b::r)=true:=h2
           rw [AK,beq_iff_eq,beq_iff_eq] at h2
           obtain ⟨rfl,rfl⟩:=h2
           rw [Cc] at hs
           split at hs
           · rename_i hlu
             split at hs
             · cases hs
             · rename_i hlen
               split at hs
               · cases hs
               · rename_i hup
                 split at hs
                 · cases hs
                 · rename_i hkey
                   simp only [D2,BH,true_and] at hs
                   rw [hs] at hlen hkey
                   refine ⟨b,r,rfl,?_,takeWhile_eq hs,by simpa using hlen,by simpa using hkey⟩
                   rw [Bool.not_eq_true] at hup
                   rw [hup,Lf] at hlu
                   exact hlu
           · split at hs
             · split at hs
               · cases hs
               · split at hs<;>cases hs
             · split at hs<;>cases hs
end Go.Ab
