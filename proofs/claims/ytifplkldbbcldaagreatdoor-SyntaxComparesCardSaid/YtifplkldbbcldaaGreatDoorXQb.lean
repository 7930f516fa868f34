/- The parser of the reference in plain data: its steps, and that it does what the program's parser does. Both parsers do the same, in plain data. Both parsers do the same, in plain data: expressions and programs. Valid programs, in plain data. The tokens of a text in plain data, and what both parsers make of them. Texts of programs in plain data. Names as tokens, in plain data. Conditions: none. -/
import Derived.Lib.ItoaNum
import Derived.Lib.Join
import Derived.Test.YtifplkldbbcldaaGreatDoorXTm
set_option linter.unusedSimpArgs false
set_option linter.unusedVariables false
set_option maxRecDepth 4000
set_option maxHeartbeats 8000000
open Bool renaming and_eq_true→AN,or_eq_true→BM,not_eq_true'→E2,eq_false_iff→F4,or_false→Mp,or_eq_false_iff→Ko
open Nat renaming le_trans→BC
open List renaming mem_cons_self→Ad,all_eq_true→A5,mem_append→BN,contains_eq_mem→Dv,takeWhile_cons→Fa,length_cons→AE,length_drop→Aj,length_append→AA,length_nil→AH,mem_cons_of_mem→Ah,cons_append→AX,mem_cons→CN,nil_append→A0
open Except.ok renaming injEq→Gt
open Prod.mk renaming injEq→BY
open Option renaming bind_eq_bind→AS,bind_eq_some_iff→AB
namespace Go.Ab
structure RSt where
 r:List Tok
 b:Bool
def RSt.hd (s:RSt):Tok:=s.r.headD U8
def RSt.adv (s:RSt):RSt:=⟨s.r.tail,s.b⟩
def RSt.is (s:RSt) (t:Str):Bool:=!s.b&&(s.hd.kind==4||s.hd.kind==5)&&s.hd.text==t
theorem vE {s:RSt} (h:WF s.r) (hk:s.hd.kind≠6∨s.hd.text≠[]):WF s.adv.r∧s.adv.r <:+s.r:=
 Sh (s:=⟨s.r,false,0⟩) h hk
theorem RSt.tL {s:RSt} {t:Str} (h:s.is t=true):s.b=false∧(s.hd.kind=4∨s.hd.kind=5)∧s.hd.text=t:=by
 simp only [RSt.is,AN,BM,beq_iff_eq,E2] at h
 exact ⟨h.1.1,h.1.2,h.2⟩
theorem RSt.x9 {s:RSt} (t:Str) (h:s.b=true):s.is t=false:=by simp [RSt.is,h]
structure RM (α:Type) where
 run:RSt→α×RSt
 st:∀s,s.b=true→(run s).2=s
 sf:∀s,WF s.r→WF (run s).2.r∧(run s).2.r <:+s.r
namespace RM
variable {α β:Type}
def pure (a:α):RM α:=⟨fun s=>(a,s),fun _ _=>rfl,fun _ h=>⟨h,List.suffix_refl _⟩⟩
def bind (m:RM α) (k:α→RM β):RM β:=
 ⟨fun s=>(k (m.run s).1).run (m.run s).2,fun s h=>by
   have h1:=m.st s h
   rw [(k (m.run s).1).st _ (by rw [h1];exact h),h1],fun s h=>by
   obtain ⟨h1,h2⟩:=m.sf s h
   obtain ⟨h3,h4⟩:=(k (m.run s).1).sf _ h1
   exact ⟨h3,h4.trans h2⟩⟩
def acc (t:Str) (y n:RM α):RM α:=
 ⟨fun s=>if s.is t then y.run s.adv else n.run s,fun s h=>by
   rw [if_neg (by rw [RSt.x9 t h];decide)];exact n.st s h,fun s h=>by
   split
   · rename_i e
     obtain ⟨_,hk,_⟩:=RSt.tL e
     obtain ⟨h1,h2⟩:=vE h (.inl (by omega))
     obtain ⟨h3,h4⟩:=y.sf s.adv h1
     exact ⟨h3,h4.trans h2⟩
   · exact n.sf s h⟩
def ite (c:RSt→Bool) (y n:RM α):RM α:=
 ⟨fun s=>if c s then y.run s else n.run s,fun s h=>by
   split
   · exact y.st s h
   · exact n.st s h,fun s h=>by
   split
   · exact y.sf s h
   · exact n.sf s h⟩
def kind (k:Int) (y n:RM α):RM α:=ite (fun s=>s.hd.kind==k) y n
def bad (a:α) (n:RM α):RM α:=ite (fun s=>s.b) (pure a) n
def fail (a:α):RM α:=⟨fun s=>(a,⟨s.r,true⟩),fun ⟨r,b⟩ h=>by simp only at h;rw [h],fun _ h=>⟨h,List.suffix_refl _⟩⟩
def map (g:α→β) (m:RM α):RM β:=m.bind fun a=>pure (g a)
end RM
end Go.Ab
namespace Go.Ab
def Ts:List Str:=[[45,62],[60,61],[61,61],[40],[41],[44],[61],[124],[43],[45],[42],[47],[37],[60],[59],[95]]
def OL (s:Str):Bool:=VM s||Ts.contains s
def kV (t:Tok):Prop:=((t.kind=1∨t.kind=2∨t.kind=3)∧OL t.text=false)∨t.kind=4∨t.kind=5∨(t.kind=6∧t.text=[])
def V8 (r:List Tok):Prop:=r.length≤17000∧∀t∈r,kV t
theorem V8.suf {a r:List Tok} (h:V8 r) (hs:a <:+r):V8 a:=⟨BC hs.length_le h.1,fun t ht=>h.2 t (hs.subset ht)⟩
theorem AAI {r:List Tok} (hw:WF r) (h:V8 r):kV (r.headD U8):=by
 cases r with
 |nil=>exact hw.elim
 |cons t l=>exact h.2 t (Ad ..)
theorem nk {r:List Tok} (hw:WF r) (h:V8 r) {k:Int} (hk:k=1∨k=2∨k=3) (e:((r.headD U8).kind==k)=true) {w:Str} (hw2:OL w=true):((r.headD U8).text==w)=false:=by
 rw [beq_iff_eq] at e
 rcases AAI hw h with ⟨_,h2⟩|h2|h2|⟨h2,_⟩
 · rw [F4];intro hc;rw [beq_iff_eq] at hc;rw [hc,hw2] at h2;cases h2
 · omega
 · omega
 · omega
section
variable {α β:Type}
end
theorem q9 {α:Type} {t:Str} {ht:t≠[]} {y n:PM α} {r:List Tok} {f:Bool} {p:Nat} (hc:((r.headD U8).text==t)=true):(PM.acc t ht y n).run ⟨r,f,p⟩=y.run ⟨r.tail,f,p⟩:=if_pos hc
theorem SW {α:Type} {t:Str} {ht:t≠[]} {y n:PM α} {r:List Tok} {f:Bool} {p:Nat} (hc:((r.headD U8).text==t)=false):(PM.acc t ht y n).run ⟨r,f,p⟩=n.run ⟨r,f,p⟩:=if_neg (by rw [PSt.hd,hc];decide)
end Go.Ab
namespace Go.Ab
end Go.Ab
namespace Go.Ab
def Qc (k:Int) (s:Str):Bool:=
 (BR s).2.2==0&&((BR s).1.length==2&&(match (BR s).1 with|[]=>false|a::_=>a.kind==k&&a.text==s))
def Hi (s:Str):Bool:=Qc 1 s
def upperB (s:Str):Bool:=Qc 2 s
def Ha (s:Str):Bool:=s==[]||Hi s
def DN (k:Int) (n:Str) (len:Nat):Bool:=
 if k=1∨k=2∨k=3 then n==[]&&decide (len=0)
                                     else if k=4 then Hi n&&decide (len=0)
                                     else if k=5 then upperB n&&decide (len≤6)
                                     else if k=6 then n==[]&&decide (2≤len)&&decide (len≤6)
                                     else if k=7∨k=8 then n==[]&&decide (len=1)
                                     else if k=9 then n==[]&&decide (1≤len)&&decide (len≤7)
                                     else false
def Du:Nat→TE→Bool
 |0,_=>false
 |d+1,.mk k n l=>DN k n l.length&&l.all (Du d)
def Wo (c:CE):Bool:=upperB c.name&&decide (c.args.length≤6)&&c.args.all (Du 40)
def KG (d:DE):Bool:=upperB d.name&&decide (d.vars.length≤6)&&d.vars.all Hi&&decide (1≤d.cons.length)&&decide (d.cons.length≤8)&&d.cons.all Wo
def Tz:Al→Bool
 | .mk c vs _=>upperB c&&decide (vs.length≤6)&&vs.all Ha
def nmB (o:Int) (n:Str):Bool:=
 if o=4 then Hi n else if o=6 then upperB n else if o=7∨o=17 then Ha n else n==[]
def nuB (o:Int) (u:Int):Bool:=
 if o=2 then decide (0≤u)&&decide (u≤1) else if o=3 then decide (-1000000≤u)&&decide (u≤1000000) else if o=13 then decide (1≤u)&&decide (u≤8)
                                                                                                                                          else if o=14 then decide (1≤u)&&decide (u≤7) else if o=15 then decide (-1000≤u)&&decide (u≤1000) else u==0
def nsB (o:Int) (ns:List Str):Bool:=
 if o=8 then decide (2≤ns.length)&&decide (ns.length≤6)&&ns.all Ha else if o=11 then decide (ns.length≤6)&&ns.all Hi else decide (ns.length=0)
def asB (o:Int) (al:List Al):Bool:=
 if o=10 then decide (1≤al.length)&&al.all Tz else decide (al.length=0)
def Iq (u:Int):Nat:=if u=1∨u=2∨u=7 then 2 else if u=3 then 3 else if u=4∨u=5∨u=6 then 1 else 0
def nkB (o u:Int) (nk:Nat):Bool:=
 if o=1∨o=2∨o=3∨o=4∨o=15 then decide (nk=0)
                                       else if o=5 then decide (2≤nk)&&decide (nk≤6)
                                       else if o=6 then decide (nk≤6)
                                       else if o=7∨o=8∨o=13∨o=17 then decide (nk=2)
                                       else if o=9 then decide (nk=3)
                                       else if o=10∨o=11∨o=16 then decide (nk=1)
                                       else if o=12 then decide (1≤nk)&&decide (nk≤7)
                                       else if o=14 then decide (nk=Iq u)
                                       else false
def HT (o:Int) (n:Str) (u:Int) (ns:List Str) (nk:Nat) (al:List Al):Bool:=
 nmB o n&&nuB o u&&nsB o ns&&asB o al&&nkB o u nk
def vEx:Nat→Nat→Ex→Option Nat
 |0,_,_=>none
 |d+1,q,.mk o n u ns ks al=>
  match q with
  |0=>none
  |q+1=>if HT o n u ns ks.length al then (ks.foldlM (fun q e=>vEx d q e) q).bind fun q=>al.foldlM (fun q a=>match a with| .mk _ _ b=>vEx d q b) q else none
def OF (f:FE):Bool:=Hi f.name&&decide (f.params.length≤6)&&f.params.all Hi
def ZA (q:Nat) (f:FE):Option Nat:=if OF f then vEx 40 q f.body else none
def Fu (p:Pg):Bool:=decide (p.data.length≤12)&&decide (p.Ru.length≤24)&&p.data.all KG&&(p.Ru.foldlM ZA 600).isSome
end Go.Ab
namespace Go.Ab
theorem Sy {w:Str} (h:OL w=true):∃b l,w=b::l∧Pd b.toNat=false∧Ix b.toNat=false∧(RO b.toNat=true→VM w=true):=by
 have h0:∀w∈NV++Ts,∃b l,w=b::l∧Pd b.toNat=false∧Ix b.toNat=false:=by
  have:(NV++Ts).all (fun w=>match w with|[]=>false|b::_=>!Pd b.toNat&& !Ix b.toNat)=true:=by decide
  intro w hw
  have:=A5.1 this w hw
  match w,this with
  |b::l,this=>
   simp only [AN,E2] at this
   exact ⟨b,l,rfl,this.1,this.2⟩
 have h1:∀w∈Ts,∀b l,w=b::l→RO b.toNat=false:=by
  have:Ts.all (fun w=>match w with|[]=>false|b::_=>!RO b.toNat)=true:=by decide
  intro w hw b l e
  have:=A5.1 this w hw
  subst e
  simpa using this
 simp only [OL,BM] at h
 have hm:w∈NV++Ts:=by
  rw [BN]
  rcases h with h|h
  · left
    simp only [VM,List.any_eq_true,beq_iff_eq] at h
    obtain ⟨x,hx,rfl⟩:=h
    exact hx
  · right;simpa [Dv] using h
 obtain ⟨b,l,e,h2,h3⟩:=h0 w hm
 refine ⟨b,l,e,h2,h3,fun hl=>?_⟩
 rcases h with h|h
 · exact h
 · have:=h1 w (by simpa [Dv] using h) b l e
   rw [hl] at this;cases this
def inner (t:Tok):Prop:=kV t∧t.kind≠6∧t.text≠[]
theorem Ye {s:Str} {k:Int} {t:Str} (i:Nat) (h:FO s= .ok (k,t)):inner ⟨k,t,i⟩:=by
 have hl:=(S8 h).1
 have hne:t≠[]:=by rintro rfl;simp at hl
 match s,h with
 |b::r,h=>
  have hhd:∀p:UInt8→Bool,∀u,(b::r).takeWhile p=u→u≠[]→∃l,u=b::l:=fun p u hu hn=>by
   rw [Fa] at hu
   split at hu
   · exact ⟨_,hu.symm⟩
   · exact absurd hu.symm hn
  simp only [FO] at h
  split at h
  · rename_i hlu
    split at h
    · cases h
    · split at h
      · rename_i hup
        simp only [Gt,BY] at h
        obtain ⟨rfl,hq⟩:=h
        obtain ⟨l,rfl⟩:=hhd _ _ hq hne
        refine ⟨.inl ⟨.inr (.inl rfl),?_⟩,fun h6=>absurd h6 (by simp),hne⟩
        rw [F4]
        intro hw
        obtain ⟨c,l',e,h1,_⟩:=Sy hw
        simp only at e
        cases e
        rw [hup] at h1;cases h1
      · split at h
        · simp only [Gt,BY] at h
          obtain ⟨rfl,hq⟩:=h
          exact ⟨.inr (.inl rfl),fun h6=>absurd h6 (by simp),hne⟩
        · rename_i hup hk
          simp only [Gt,BY] at h
          obtain ⟨rfl,hq⟩:=h
          rw [hq] at hk
          obtain ⟨l,rfl⟩:=hhd _ _ hq hne
          refine ⟨.inl ⟨.inl rfl,?_⟩,fun h6=>absurd h6 (by simp),hne⟩
          rw [F4]
          intro hw
          obtain ⟨c,l',e,_,_,h2⟩:=Sy hw
          simp only at e h2
          cases e
          rw [Bool.not_eq_true] at hup
          rw [hup,Mp] at hlu
          exact hk (h2 hlu)
  · split at h
    · rename_i hd
      split at h
      · cases h
      · split at h
        · simp only [Gt,BY] at h
          obtain ⟨rfl,hq⟩:=h
          obtain ⟨l,rfl⟩:=hhd _ _ hq hne
          refine ⟨.inl ⟨.inr (.inr rfl),?_⟩,fun h6=>absurd h6 (by simp),hne⟩
          rw [F4]
          intro hw
          obtain ⟨c,l',e,_,h1,_⟩:=Sy hw
          simp only at e
          cases e
          rw [hd] at h1;cases h1
        · cases h
    · split at h
      · cases h
      · simp only [Gt,BY] at h
        obtain ⟨rfl,hq⟩:=h
        exact ⟨.inr (.inr (.inl rfl)),fun h6=>absurd h6 (by simp),hne⟩
theorem V3:∀(n:Nat) (rest:Str) (i:Nat) (acc:List Tok),(∀t∈acc,inner t)→(E5 n rest i acc).2.2=0→rest.length < n→∃l e,(E5 n rest i acc).1=l++[⟨6,[],e⟩]∧(∀t∈l,inner t)∧l.length≤acc.length+rest.length
 |0,rest,i,acc,_,_,hn=>by omega
 |n+1,[],i,acc,ha,_,_=>⟨acc,i,rfl,ha,Nat.le_add_right _ _⟩
 |n+1,b::r,i,acc,ha,h,hn=>by
  simp only [AE] at hn
  rw [E5] at h ⊢
  split at h
  · rename_i hb
    rw [if_pos hb]
    obtain ⟨l,e,h1,h2,h3⟩:=V3 n r (i+1) acc ha h (by omega)
    exact ⟨l,e,h1,h2,by simp only [AE];omega⟩
  · rename_i hb
    rw [if_neg hb]
    split at h
    · rename_i hc
      rw [if_pos hc]
      rw [beq_iff_eq] at hc
      subst hc
      have:1≤cmt (35::r):=by simp [cmt]
      obtain ⟨l,e,h1,h2,h3⟩:=V3 n _ _ acc ha h (by rw [Aj];simp only [AE];omega)
      exact ⟨l,e,h1,h2,by rw [Aj] at h3;simp only [AE] at h3 ⊢;omega⟩
    · rename_i hc
      rw [if_neg hc]
      cases hs:FO (b::r) with
      |error e=>
       rw [hs] at h
       simp only at h
       rcases P5 hs with rfl|rfl<;>cases h
      |ok x=>
       obtain ⟨k,t⟩:=x
       rw [hs] at h
       simp only at h ⊢
       have hl:=S8 hs
       obtain ⟨l,e,h1,h2,h3⟩:=V3 n _ _ _ (fun u hu=>by
        rcases BN.1 hu with hu|hu
        · exact ha u hu
        · simp at hu;subst hu;exact Ye i hs) h (by rw [Aj];simp only [AE] at hl ⊢;omega)
       exact ⟨l,e,h1,h2,by rw [AA,Aj] at h3;simp only [AE,AH] at h3 hl ⊢;omega⟩
theorem sF:∀ {l:List Tok} {e:Nat},(∀t∈l,inner t)→WF (l++[⟨6,[],e⟩])∧∀t∈l++[⟨6,[],e⟩],kV t
 |[],e,_=>⟨⟨rfl,rfl⟩,fun t ht=>(by simp at ht;subst ht;exact .inr (.inr (.inr ⟨rfl,rfl⟩)))⟩
 |t::l,e,h=>by
  obtain ⟨h1,h2⟩:=sF (l:=l) (e:=e) (fun u hu=>h u (Ah _ hu))
  have ht:=h t (Ad ..)
  refine ⟨?_,fun u hu=>?_⟩
  · rw [AX]
    cases hl:l++[(⟨6,[],e⟩:Tok)] with
    |nil=>simp at hl
    |cons u m=>rw [hl] at h1;exact ⟨ht.2,h1⟩
  · rw [AX] at hu
    rcases CN.1 hu with rfl|hu
    · exact ht.1
    · exact h2 u hu
theorem fB {s:Str} (h:(BR s).2.2=0):WF (BR s).1∧V8 (BR s).1:=by
 unfold BR at h ⊢
 split at h
 · cases h
 · rename_i hl
   rw [if_neg hl]
   obtain ⟨l,e,h1,h2,h3⟩:=V3 (s.length+1) s 0 [] (fun t ht=>by cases ht) h (by omega)
   rw [h1]
   obtain ⟨w1,w2⟩:=sF (l:=l) (e:=e) h2
   refine ⟨w1,?_,w2⟩
   rw [AA];simp only [AH,AE] at h3 ⊢;omega
noncomputable def Kd (s:Str):Pg×Nat×Int:=
 if (BR s).2.2≠0 then (⟨[],[]⟩,(BR s).2.1,(BR s).2.2)
                                            else if (N0.run ⟨(BR s).1,false,0⟩).2.f then (⟨[],[]⟩,(N0.run ⟨(BR s).1,false,0⟩).2.p,2)
                                            else if Fu (N0.run ⟨(BR s).1,false,0⟩).1 then ((N0.run ⟨(BR s).1,false,0⟩).1,0,0) else (⟨[],[]⟩,0,9)
end Go.Ab
namespace Go.Ab
mutual
def Ex.nb:Ex→Prop
 | .mk o n u ns ks al=>HT o n u ns ks.length al=true∧Ex.nbs ks∧Al.nbs al
def Ex.nbs:List Ex→Prop
 |[]=>True
 |t::l=>t.nb∧Ex.nbs l
def Al.nb:Al→Prop
 | .mk _ _ b=>b.nb
def Al.nbs:List Al→Prop
 |[]=>True
 |t::l=>t.nb∧Al.nbs l
end
theorem Ex.OG:∀ {l:List Ex},Ex.nbs l↔∀t∈l,t.nb
 |[]=>by simp [Ex.nbs]
 |t::l=>by simp [Ex.nbs,Ex.OG (l:=l)]
theorem Al.OG:∀ {l:List Al},Al.nbs l↔∀t∈l,t.nb
 |[]=>by simp [Al.nbs]
 |t::l=>by simp [Al.nbs,Al.OG (l:=l)]
theorem Ot {α:Type} {f:Nat→α→Option Nat} {Q:α→Prop}:∀(l:List α) (q r:Nat),(∀x∈l,∀a b,f a x=some b→Q x)→l.foldlM f q=some r→∀x∈l,Q x
 |[],_,_,_,_,x,hx=>by cases hx
 |y::l,q,r,hf,h,x,hx=>by
  rw [List.foldlM_cons,AS,AB] at h
  obtain ⟨b,hb,h⟩:=h
  rcases CN.1 hx with rfl|hx
  · exact hf _ (Ad ..) q b hb
  · exact Ot l b r (fun z hz=>hf z (Ah _ hz)) h x hx
theorem cQ:∀(d q:Nat) (e:Ex) (r:Nat),vEx d q e=some r→e.nb
 |0,q,.mk ..,r,h=>by simp [vEx] at h
 |d+1,0,.mk ..,r,h=>by cases h
 |d+1,q+1,.mk o n u ns ks al,r,h=>by
  simp only [vEx] at h
  split at h
  · rename_i hn
    rw [AB] at h
    obtain ⟨c,hc,h⟩:=h
    rw [Ex.nb,Ex.OG,Al.OG]
    refine ⟨hn,Ot ks q c (fun x _ a b hab=>cQ d a x b hab) hc,Ot al c r (fun x _ a b hab=>?_) h⟩
    obtain ⟨cc,vs,bd⟩:=x
    rw [Al.nb]
    exact cQ d a bd b hab
  · cases h
def cms (l:List Str):Str:=Lib.join l [44,32]
def J7 (s:Str):Str:=40::(s++[41])
def JA (l:List Str):Str:=if l=[] then [] else J7 (cms l)
def Iz (l:List Str):Str:=J7 (cms l)
def shown (s:Str):Str:=if s=[] then [95] else s
def at0 (l:List Str) (i:Nat):Str:=l.getD i []
def tyN (k:Int) (n:Str) (ts:List Str):Str:=
 if k=1 then [105,110,116] else if k=2 then [98,111,111,108] else if k=3 then [117,110,105,116]
  else if k=7 then [97,114,114,97,121]++JA ts else if k=8 then [114,101,102]++JA ts
  else if k=9 then [102,110]++(Iz ts.dropLast++([32,45,62,32]++ts.getLastD []))
  else n++JA ts
mutual
def Ct:TE→Str
 | .mk k n l=>tyN k n (bA l)
def bA:List TE→List Str
 |[]=>[]
 |t::l=>Ct t::bA l
end
theorem Pz:∀l:List TE,bA l=l.map Ct
 |[]=>rfl
 |t::l=>by rw [bA,Pz l];rfl
def Ef (u:Int):Nat:=if u=1∨u=2 then 2 else if u=3∨u=4∨u=5 then 3 else 1
def lvl:Ex→Nat
 | .mk o _ u _ _ _=>if o=7∨o=8∨o=9∨o=10∨o=11∨o=17 then 0 else if o=13 then Ef u else if o=12 then 4 else 5
def pl (d:Nat) (k:Ex) (t:Str):Str:=if lvl k < d then J7 t else t
def opT (u:Int):Str:=VV u.toNat
def prT (u:Int):Str:=if u=1 then [110,101,119] else if u=2 then [103,101,116] else if u=3 then [115,101,116] else if u=4 then [108,101,110] else if u=5 then [114,101,102] else if u=6 then [114,101,97,100] else [119,114,105,116,101]
def Ms:Ex→Bool
 | .mk o _ _ _ ks _=>o==6&&ks.isEmpty
def xD (ks:List Ex) (ts:List Str):Str:=match ks with
 |[]=>Iz ts.tail
 |k::_=>(if Ms k then J7 (at0 ts 0) else pl 4 k (at0 ts 0))++Iz ts.tail
def xH (u:Int) (ks:List Ex) (ts:List Str):Str:=match ks with
 |[a,b]=>pl (if Ef u=1 then 2 else Ef u) a (at0 ts 0)++(32::(opT u++(32::pl (if Ef u=1 then 2 else Ef u+1) b (at0 ts 1))))
 |_=>[]
def Pu (o:Int) (n:Str) (u:Int) (ns:List Str) (ks:List Ex) (ts:List Str) (as':List Str):Str:=
 if o=7 then [108,101,116,32]++(shown n++([32,61,32]++(at0 ts 0++([32,105,110,32]++at0 ts 1))))
                                                                   else if o=8 then [108,101,116,32]++(JA (ns.map shown)++([32,61,32]++(at0 ts 0++([32,105,110,32]++at0 ts 1))))
                                                                   else if o=9 then [105,102,32]++(at0 ts 0++([32,116,104,101,110,32]++(at0 ts 1++([32,101,108,115,101,32]++at0 ts 2))))
                                                                   else if o=10 then [109,97,116,99,104,32]++(at0 ts 0++([32,119,105,116,104,32]++(Lib.join as' [32,124,32]++[32,101,110,100])))
                                                                   else if o=11 then [102,110]++(Iz ns++([32,45,62,32]++at0 ts 0))
                                                                   else if o=17 then [116,114,121,32]++(at0 ts 0++([32,99,97,116,99,104,32]++(shown n++([32,45,62,32]++(at0 ts 1++[32,101,110,100])))))
                                                                   else if o=13 then xH u ks ts
                                                                   else if o=12 then xD ks ts
                                                                   else if o=1 then [40,41]
                                                                   else if o=2 then (if u=1 then [116,114,117,101] else [102,97,108,115,101])
                                                                   else if o=3 then Lib.itoa u
                                                                   else if o=5 then Iz ts
                                                                   else if o=14 then prT u++Iz ts
                                                                   else if o=16 then [114,97,105,115,101]++Iz ts
                                                                   else if o=15 then [116,105,99,107]++J7 (Lib.itoa u)
                                                                   else n++JA ts
def alT (c:Str) (vs:List Str) (b:Str):Str:=c++(JA (vs.map shown)++([32,45,62,32]++b))
mutual
def BA:Ex→Str
 | .mk o n u ns ks al=>Pu o n u ns ks (W7 ks) (KH al)
def W7:List Ex→List Str
 |[]=>[]
 |t::l=>BA t::W7 l
def NJ:Al→Str
 | .mk c vs b=>alT c vs (BA b)
def KH:List Al→List Str
 |[]=>[]
 |t::l=>NJ t::KH l
end
theorem Mo:∀l:List Ex,W7 l=l.map BA
 |[]=>rfl
 |t::l=>by rw [W7,Mo l];rfl
theorem Vm:∀l:List Al,KH l=l.map NJ
 |[]=>rfl
 |t::l=>by rw [KH,Vm l];rfl
def fmtC (c:CE):Str:=c.name++JA (c.args.map Ct)
def UI (d:DE):Str:=[100,97,116,97,32]++(d.name++(JA d.vars++([32,61,32]++(Lib.join (d.cons.map fmtC) [32,124,32]++[59,10]))))
def Vn (f:FE):Str:=[102,117,110,32]++(f.name++(Iz f.params++([32,61,32]++(BA f.body++[59,10]))))
def ZP (p:Pg):Str:=(p.data.map UI).flatten++(p.Ru.map Vn).flatten
end Go.Ab
namespace Go.Ab
theorem oX {a b:Int} (h:a≠b):(a==b)=false:=by simpa using h
def yM (s:Str):Prop:=∃b r,s=b::r∧RO b.toNat=true∧(∀x∈s,FW Nv x=true)∧s.length≤24∧VM s=false
theorem takeWhile_eq {α:Type} {p:α→Bool}:∀ {l:List α},l.takeWhile p=l→∀x∈l,p x=true
 |[],_,x,hx=>by cases hx
 |y::l,h,x,hx=>by
  rw [Fa] at h
  split at h
  · rename_i hy
    rcases CN.1 hx with rfl|hx
    · exact hy
    · exact takeWhile_eq (by simpa using h) x hx
  · cases h
theorem Vx {b:UInt8} (h:RO b.toNat=true):Wm b.toNat=false∧(b==35)=false∧Pd b.toNat=false:=by
 simp only [RO,AN,decide_eq_true_eq] at h
 refine ⟨?_,?_,?_⟩
 · simp only [Wm,Ko]
   refine ⟨⟨⟨?_,?_⟩,?_⟩,?_⟩<;>(apply oX;omega)
 · cases hb:(b==35) with
   |false=>rfl
   |true=>
    rw [beq_iff_eq] at hb;subst hb
    have:=h.1
    exact absurd this (by decide)
 · simp only [Pd,Bool.and_eq_false_iff,decide_eq_false_iff_not];omega
theorem Kj:∀(n:Nat) (rest:Str) (i:Nat) (acc:List Tok),(E5 n rest i acc).2.2=0→(E5 n rest i acc).1=[]∨∃tl,(E5 n rest i acc).1=acc++tl∧∀t∈tl,t.text.length≤rest.length
 |0,rest,i,acc,_=>.inl rfl
 |n+1,[],i,acc,_=>.inr ⟨[⟨6,[],i⟩],rfl,fun t ht=>by simp at ht;simp [ht]⟩
 |n+1,b::r,i,acc,h=>by
  rw [E5] at h ⊢
  split at h
  · rename_i hb
    rw [if_pos hb]
    rcases Kj n r (i+1) acc h with h|⟨tl,h1,h2⟩
    · exact .inl h
    · exact .inr ⟨tl,h1,fun t ht=>by have:=h2 t ht;simp only [AE];omega⟩
  · rename_i hb
    rw [if_neg hb]
    split at h
    · rename_i hc
      rw [if_pos hc]
      rcases Kj n _ _ acc h with h|⟨tl,h1,h2⟩
      · exact .inl h
      · exact .inr ⟨tl,h1,fun t ht=>by have:=h2 t ht;rw [Aj] at this;omega⟩
    · rename_i hc
      rw [if_neg hc]
      cases hs:FO (b::r) with
      |error e=>
       rw [hs] at h
       simp only at h
       rcases P5 hs with rfl|rfl<;>cases h
      |ok x=>
       obtain ⟨k,t⟩:=x
       rw [hs] at h
       simp only at h ⊢
       rcases Kj n _ _ _ h with h|⟨tl,h1,h2⟩
       · exact .inl h
       · refine .inr ⟨⟨k,t,i⟩::tl,by rw [h1];simp,fun u hu=>?_⟩
         rcases CN.1 hu with rfl|hu
         · exact (S8 hs).2
         · have:=h2 u hu;rw [Aj] at this;omega
theorem YO {s:Str} (h:Hi s=true):yM s:=by
 rw [Hi,Qc] at h
 simp only [AN,beq_iff_eq] at h
 obtain ⟨h0,h1,h2⟩:=h
 rw [BR] at h0 h1 h2
 split at h0
 · cases h0
 · rename_i hle
   rw [if_neg hle] at h1 h2
   match s,h0,h1,h2 with
   |[],_,h1,_=>simp [E5] at h1
   |b::r,h0,h1,h2=>
    rw [show (b::r).length+1=(r.length+1)+1 from rfl] at h0 h1 h2
    rw [E5] at h0 h1 h2
    have hsm:∀(n:Nat) (rest:Str) (i:Nat),rest.length < (b::r).length→(E5 n rest i []).2.2=0→(E5 n rest i []).1.length=2→(match (E5 n rest i []).1 with|[]=>false|a::_=>decide (a.kind=1)&&decide (a.text=b::r))=true→False:=by
     intro n rest i hlt g0 g1 g2
     rcases Kj n rest i [] g0 with h|⟨tl,h,hm⟩
     · rw [h] at g1;cases g1
     · rw [h,A0] at g1 g2
       cases tl with
       |nil=>cases g1
       |cons a tl=>
        simp only [AN,decide_eq_true_eq] at g2
        have:=hm a (Ad ..)
        rw [g2.2] at this
        omega
    have hcv:∀(l:List Tok),(match l with|[]=>false|a::_=>a.kind==1&&a.text==b::r)=true→(match l with|[]=>false|a::_=>decide (a.kind=1)&&decide (a.text=b::r))=true:=by
     intro l hl
     cases l with
     |nil=>cases hl
     |cons a l=>simpa using hl
    split at h0
    · rename_i hb
      rw [if_pos hb] at h1 h2
      exact (hsm _ _ _ (by simp) h0 h1 (hcv _ h2)).elim
    · rename_i hb
      rw [if_neg hb] at h1 h2
      split at h0
      · rename_i hc
        rw [if_pos hc] at h1 h2
        refine (hsm _ _ _ ?_ h0 h1 (hcv _ h2)).elim
        rw [beq_iff_eq] at hc
        subst hc
        have:1≤cmt (35::r):=by simp [cmt]
        rw [Aj];simp only [AE];omega
      · rename_i hc
        rw [if_neg hc] at h1 h2
        cases hs:FO (b::r) with
        |error e=>
         rw [hs] at h0
         rcases P5 hs with rfl|rfl<;>cases h0
        |ok x=>
         obtain ⟨k,t⟩:=x
         rw [hs] at h0 h1 h2
         rcases Kj _ _ _ _ h0 with h|⟨tl,h,hm⟩
         · rw [h] at h1;cases h1
         · rw [h] at h2
           replace h2:(k==1&&t==b::r)=true:=h2
           rw [AN,beq_iff_eq,beq_iff_eq] at h2
           obtain ⟨rfl,rfl⟩:=h2
           rw [FO] at hs
           split at hs
           · rename_i hlu
             split at hs
             · cases hs
             · rename_i hlen
               split at hs
               · cases hs
               · rename_i hup
                 split at hs
                 · cases hs
                 · rename_i hkey
                   simp only [Gt,BY,true_and] at hs
                   rw [hs] at hlen hkey
                   refine ⟨b,r,rfl,?_,takeWhile_eq hs,by simpa using hlen,by simpa using hkey⟩
                   rw [Bool.not_eq_true] at hup
                   rw [hup,Mp] at hlu
                   exact hlu
           · split at hs
             · split at hs
               · cases hs
               · split at hs<;>cases hs
             · split at hs<;>cases hs
end Go.Ab
