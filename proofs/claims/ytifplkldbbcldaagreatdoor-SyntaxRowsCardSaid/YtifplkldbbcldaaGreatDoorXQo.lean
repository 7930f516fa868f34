/- Two texts in a row, in plain data. What is read is not larger than its text, in plain data. The compact codes of the functions of this seat, computed out of the translation. Conditions: none. -/
import Derived.Test.YtifplkldbbcldaaGreatDoorProg
import Derived.KernelRfl
import Derived.Test.YtifplkldbbcldaaGreatDoorXQm
set_option linter.unusedSimpArgs false
set_option linter.unusedVariables false
set_option maxRecDepth 4000
set_option maxHeartbeats 8000000
open List renaming length_pos_iff→An,length_drop→Ag,length_append→AA,append_cancel_right→WW,length_cons→AD,length_nil→AG,append_nil→A1,map_append→BU,append_assoc→AS,length→N8,map_cons→AF,mem_cons→Bv
open Nat renaming le_refl→A7
open Bool renaming false_eq_true→AU
namespace Go.Ab
theorem My (n:Nat) (ds:List DE) (fs:List FE) (s:PSt):(Ds (n+1) ds fs).run s=
 if s.hd.kind==6 then (⟨ds,fs⟩,s)
                         else if s.hd.text==[100,97,116,97] then (Ds n (ds++[(JS.run s.adv).1]) fs).run (JS.run s.adv).2
                         else if s.hd.text==[102,117,110] then (Ds n ds (fs++[(Pt.run s.adv).1])).run (Pt.run s.adv).2
                         else (Ds n ds fs).run s.fail:=rfl
theorem Oj:∀(n:Nat) (ds:List DE) (fs:List FE) (s:PSt),(Ds n ds fs).run s=(⟨ds++((Ds n [] []).run s).1.data,fs++((Ds n [] []).run s).1.P6⟩,((Ds n [] []).run s).2)
 |0,ds,fs,s=>by simp [Ds,PM.pure]
 |n+1,ds,fs,s=>by
  rw [My,My n [] []]
  split
  · simp
  · split
    · rw [Oj n (ds++_),Oj n ([]++_)];simp
    · split
      · rw [Oj n ds (fs++_),Oj n [] ([]++_)];simp
      · rw [Oj n ds fs]
theorem tB {s:PSt} (h:WF s.r) (hk:(s.hd.kind==6)=false):2≤s.r.length:=by
 obtain ⟨r,f,p⟩:=s
 match r,h,hk with
 |[t],h,hk=>
  have:(PSt.mk [t] f p).hd=t:=rfl
  rw [this,h.1] at hk;cases hk
 |t::u::l,_,_=>simp
theorem BR {s:PSt} (h:WF s.r):s.adv.r.length+1=s.r.length:=by
 obtain ⟨r,f,p⟩:=s
 cases r with
 |nil=>exact h.elim
 |cons t l=>rfl
theorem Xb {s:PSt} (h:WF s.r):s.fail.r.length=1:=by
 have:1≤s.r.length:=An.2 h.ne
 show (Uj s.r).length=1
 unfold Uj;rw [Ag];omega
theorem Sb:∀(N n m:Nat) (ds:List DE) (fs:List FE) (s:PSt),WF s.r→s.r.length≤N→N≤n→N≤m→(Ds n ds fs).run s=(Ds m ds fs).run s
 |0,_,_,_,_,s,h,h0,_,_=>by have:=An.2 h.ne;omega
 |N+1,0,_,_,_,_,_,_,h1,_=>by omega
 |N+1,_,0,_,_,_,_,_,_,h1=>by omega
 |N+1,n+1,m+1,ds,fs,s,h,h0,h1,h2=>by
  rw [My,My m]
  split
  · rfl
  · rename_i hk
    have h2':=tB h (by simpa using hk)
    have hw:=QM h (.inl (by simpa using hk))
    have hal:=BR h
    split
    · have hs:=JS.sf s.adv hw.1
      exact Sb N n m _ _ _ hs.1 (by have:=hs.2.length_le;omega) (by omega) (by omega)
    · split
      · have hs:=Pt.sf s.adv hw.1
        exact Sb N n m _ _ _ hs.1 (by have:=hs.2.length_le;omega) (by omega) (by omega)
      · have hs:=Sf h
        exact Sb N n m _ _ _ hs.1 (by have:=Xb h;omega) (by omega) (by omega)
theorem gR {α:Type} (m:PM α) (t:Str) (ht:t≠[]) (l t1:List Tok) (p:Nat) (l':List Tok) (hw:WF (l++t1)) (hf:((m.bind fun a=>(PM.exp t ht).bind fun _=>.pure a).run ⟨l++t1,false,p⟩).2.f=false)
 (hr:((m.bind fun a=>(PM.exp t ht).bind fun _=>.pure a).run ⟨l++t1,false,p⟩).2.r=l'++t1) (t2:List Tok):
 (m.bind fun a=>(PM.exp t ht).bind fun _=>.pure a).run ⟨l++t2,false,p⟩=(((m.bind fun a=>(PM.exp t ht).bind fun _=>.pure a).run ⟨l++t1,false,p⟩).1,⟨l'++t2,false,((m.bind fun a=>(PM.exp t ht).bind fun _=>.pure a).run ⟨l++t1,false,p⟩).2.p⟩):=by
 have hrun:∀s,(m.bind fun a=>(PM.exp t ht).bind fun _=>.pure a).run s=((m.run s).1,((PM.exp t ht).run (m.run s).2).2):=fun _=>rfl
 have hexp:∀s:PSt,((PM.exp t ht).run s).2=if s.hd.text==t then s.adv else s.fail:=fun s=>by
  show (if s.hd.text==t then ((),s.adv) else ((),s.fail)).2=_
  split<;>rfl
 rw [hrun,hexp] at hf hr
 rw [hrun,hrun,hexp,hexp]
 obtain ⟨w1,u1⟩:=m.sf ⟨l++t1,false,p⟩ hw
 split at hf
 · rename_i hc
   rw [if_pos hc] at hr
   rw [if_pos hc]
   have hx:(m.run ⟨l++t1,false,p⟩).2.f=false:=hf
   have hal:=BR w1
   rw [hr,AA] at hal
   obtain ⟨l1,e1,_⟩:=Vo u1 (by omega)
   have hl1:l1.length=l'.length+1:=by rw [e1,AA] at hal;omega
   have hne:l1≠[]:=by rintro rfl;simp at hl1
   have em:=m.fr l t1 t2 false p l1 hne hw hx e1
   rw [em]
   cases l1 with
   |nil=>exact absurd rfl hne
   |cons c l1=>
    have hh:(m.run ⟨l++t1,false,p⟩).2.hd=c:=by unfold PSt.hd;rw [e1];rfl
    have hra:(m.run ⟨l++t1,false,p⟩).2.adv.r=l1++t1:=by unfold PSt.adv;rw [e1];rfl
    rw [hra] at hr
    have hll:=WW hr
    subst hll
    rw [hh] at hc
    have h2:((PSt.mk (c::l1++t2) false (m.run ⟨l++t1,false,p⟩).2.p).hd.text==t)=true:=hc
    rw [if_pos h2];rfl
 · cases hf
noncomputable def zF:PM DE:=FG.bind fun d=>(Ht FB).bind fun vs=>(FX [61]).bind fun _=>(items bT [124] (by decide)).bind fun cs=>.pure ⟨d,vs,cs⟩
noncomputable def ABA:PM FE:=FB.bind fun f=>(FX [40]).bind fun _=>(closed FB).bind fun ps=>(FX [61]).bind fun _=>exR.bind fun b=>.pure ⟨f,ps,b⟩
theorem rM (s:PSt):JS.run s=(zF.bind fun d=>(PM.exp [59] (by decide)).bind fun _=>.pure d).run s:=rfl
theorem vS (s:PSt):Pt.run s=(ABA.bind fun d=>(PM.exp [59] (by decide)).bind fun _=>.pure d).run s:=rfl
theorem Y8 {α:Type} {M m:PM α} (hM:∀s,M.run s=(m.bind fun d=>(PM.exp [59] (by decide)).bind fun _=>.pure d).run s) {l:List Tok} {E:Tok} {p:Nat} (hw:WF (l++[E])) (hf:(M.run ⟨l++[E],false,p⟩).2.f=false):
 ∃l',(M.run ⟨l++[E],false,p⟩).2.r=l'++[E]∧WF (l'++[E])∧l'.length≤l.length∧∀t2,M.run ⟨l++t2,false,p⟩=((M.run ⟨l++[E],false,p⟩).1,⟨l'++t2,false,(M.run ⟨l++[E],false,p⟩).2.p⟩):=by
 obtain ⟨w1,u1⟩:=M.sf ⟨l++[E],false,p⟩ hw
 obtain ⟨l',e1,h1⟩:=Vo u1 (by have:=An.2 w1.ne;simp only [AD,AG];omega)
 refine ⟨l',e1,by rw [← e1];exact w1,h1.length_le,fun t2=>?_⟩
 rw [hM] at hf e1
 rw [hM,hM]
 exact gR m _ (by decide) l [E] p l' hw hf e1 t2
theorem bW (n:Nat) (ds:List DE) (fs:List FE) {s:PSt} (h:((Ds n ds fs).run s).2.f=false):s.f=false:=by
 cases hc:s.f with
 |false=>rfl
 |true=>have:=((Ds n ds fs).st s hc).1;rw [h] at this;cases this
theorem UE:∀(n:Nat) (ds:List DE) (fs:List FE) (l:List Tok) (E:Tok) (p:Nat),WF (l++[E])→((Ds n ds fs).run ⟨l++[E],false,p⟩).2.f=false→l.length < n→
 ∃m,n≤m+l.length∧∀t,∃q,(Ds n ds fs).run ⟨l++t,false,p⟩=(Ds m ((Ds n ds fs).run ⟨l++[E],false,p⟩).1.data ((Ds n ds fs).run ⟨l++[E],false,p⟩).1.P6).run ⟨t,false,q⟩
 |0,_,_,_,_,_,_,_,h=>by omega
 |n+1,ds,fs,[],E,p,hw,hf,_=>by
  have hk:((PSt.mk ([]++[E]) false p).hd.kind==6)=true:=by show (E.kind==6)=true;rw [hw.1];rfl
  rw [My,if_pos hk]
  exact ⟨n+1,by simp,fun t=>⟨p,rfl⟩⟩
 |n+1,ds,fs,c::l,E,p,hw,hf,hn=>by
  have hck:(c.kind==6)=false:=by
   have:c.kind≠6:=by
    cases l with
    |nil=>exact hw.1.1
    |cons x l=>exact hw.1.1
   simpa using this
  have hw':WF (l++[E]):=WF.tail (t:=c) hw (.inl (by simpa using hck))
  have h1:∀t,(PSt.mk (c::l++t) false p).hd=c:=fun _=>rfl
  have h2:∀t,(PSt.mk (c::l++t) false p).adv=⟨l++t,false,p⟩:=fun _=>rfl
  have heq:∀t,(Ds (n+1) ds fs).run ⟨c::l++t,false,p⟩=
   if c.text==[100,97,116,97] then (Ds n (ds++[(JS.run ⟨l++t,false,p⟩).1]) fs).run (JS.run ⟨l++t,false,p⟩).2
                                                                                             else if c.text==[102,117,110] then (Ds n ds (fs++[(Pt.run ⟨l++t,false,p⟩).1])).run (Pt.run ⟨l++t,false,p⟩).2
                                                                                             else (Ds n ds fs).run (PSt.mk (c::l++t) false p).fail:=fun t=>by
   rw [My,h1,h2,hck];rfl
  simp only [AD] at hn ⊢
  rw [heq] at hf ⊢
  split at hf
  · rename_i hc
    rw [if_pos hc]
    have hf1:=bW _ _ _ hf
    obtain ⟨l',e1,w1,hl,hx⟩:=Y8 rM hw' hf1
    have hst:(JS.run ⟨l++[E],false,p⟩).2=⟨l'++[E],false,(JS.run ⟨l++[E],false,p⟩).2.p⟩:=by
     generalize JS.run ⟨l++[E],false,p⟩=x at hf1 e1
     obtain ⟨a,r,f,q⟩:=x
     simp only at hf1 e1
     rw [hf1,e1]
    obtain ⟨m,hm,ih⟩:=UE n (ds++[(JS.run ⟨l++[E],false,p⟩).1]) fs l' E (JS.run ⟨l++[E],false,p⟩).2.p w1 (by rw [← hst];exact hf) (by omega)
    refine ⟨m,by omega,fun t=>?_⟩
    rw [heq,if_pos hc,hx t]
    rw [← hst] at ih
    exact ih t
  · rename_i hc
    rw [if_neg hc]
    split at hf
    · rename_i hc2
      rw [if_pos hc2]
      have hf1:=bW _ _ _ hf
      obtain ⟨l',e1,w1,hl,hx⟩:=Y8 vS hw' hf1
      have hst:(Pt.run ⟨l++[E],false,p⟩).2=⟨l'++[E],false,(Pt.run ⟨l++[E],false,p⟩).2.p⟩:=by
       generalize Pt.run ⟨l++[E],false,p⟩=x at hf1 e1
       obtain ⟨a,r,f,q⟩:=x
       simp only at hf1 e1
       rw [hf1,e1]
      obtain ⟨m,hm,ih⟩:=UE n ds (fs++[(Pt.run ⟨l++[E],false,p⟩).1]) l' E (Pt.run ⟨l++[E],false,p⟩).2.p w1 (by rw [← hst];exact hf) (by omega)
      refine ⟨m,by omega,fun t=>?_⟩
      rw [heq,if_neg hc,if_pos hc2,hx t]
      rw [← hst] at ih
      exact ih t
    · exact absurd (bW _ _ _ hf) (by simp [PSt.fail])
theorem sO {s:Str} {ks:List KT} (h:G9 s ks []) (hl:s.length≤16384):(Am s).2.2=0∧strip (Am s).1=ks++[(6,[])]:=by
 unfold Am
 rw [if_neg (by omega)]
 obtain ⟨n,i,acc,e1,e2,e3⟩:=h (s.length+1) 0 [] (by simp)
 rw [A1] at e3
 rw [e3]
 cases n with
 |zero=>simp at e2
 |succ n=>
  rw [C4]
  refine ⟨rfl,?_⟩
  show strip (acc++[⟨6,[],i⟩])=_
  rw [strip,BU]
  rw [strip] at e1
  rw [e1];rfl
theorem Oi {a:Str} (h:(C8 a).2.2=0):(Am a).2.2=0∧(HL.run ⟨(Am a).1,false,0⟩).2.f=false∧(C8 a).1=(HL.run ⟨(Am a).1,false,0⟩).1∧CW (C8 a).1=true:=by
 have h0:(Am a).2.2=0:=by
  apply Classical.byContradiction
  intro hne
  unfold C8 at h
  rw [if_pos hne] at h
  exact hne h
 rw [Mv h0] at h ⊢
 unfold Xc at h ⊢
 split at h
 · cases h
 · rename_i hf
   rw [if_neg hf]
   split at h
   · rename_i hv
     rw [if_pos hv]
     exact ⟨h0,by simpa using hf,rfl,hv⟩
   · cases h
def tP (p q:Pg):Pg:=⟨p.data++q.data,p.P6++q.P6⟩
theorem iP {a b:Str} (ha:(C8 a).2.2=0) (hb:(C8 b).2.2=0) (hl:a.length+b.length+1≤16384):
 ((C8 (a++10::b)).1,(C8 (a++10::b)).2.2)=if CW (tP (C8 a).1 (C8 b).1) then (tP (C8 a).1 (C8 b).1,0) else (⟨[],[]⟩,9):=by
 obtain ⟨a0,a1,a2,_⟩:=Oi ha
 obtain ⟨b0,b1,b2,_⟩:=Oi hb
 rw [a2,b2]
 obtain ⟨la,ea,ha1,ha2,_⟩:=aC a0
 obtain ⟨lb,eb,hb1,hb2,_⟩:=aC b0
 have hlex:G9 (a++10::b) (strip la++strip lb) []:=by
  refine G9.trans (ha2 (10::b++[]) (.inr ⟨b++[],rfl⟩)) ?_
  exact G9.trans (s1:=[10]) (k1:=[]) (qW _) (hb2 [] (.inl rfl))
 obtain ⟨r0,r1⟩:=sO hlex (by simp;omega)
 obtain ⟨wa,oa⟩:=PI a0
 obtain ⟨wb,ob⟩:=PI b0
 obtain ⟨wr,or⟩:=PI r0
 have hstrip:strip (Am (a++10::b)).1=strip (la++(Am b).1):=by
  rw [r1,aE,hb1,aE,AS];rfl
 have hlen:la.length+(Am b).1.length≤17000:=by
  have h1:=congrArg N8 hstrip
  rw [KS,KS,AA] at h1
  have:=or.1
  omega
 obtain ⟨p1,_,p3⟩:=HL.pm ⟨(Am (a++10::b)).1,false,0⟩ ⟨la++(Am b).1,false,0⟩ hstrip rfl
 rw [ha1] at wa a1 ⊢
 have hfu:=FL
 obtain ⟨m,hm,hfr⟩:=UE BC [] [] la ⟨6,[],ea⟩ 0 wa a1 (by have:=An.2 wb.ne;omega)
 obtain ⟨q,hq⟩:=hfr (Am b).1
 rw [Oj m,Sb (Am b).1.length m BC [] [] ⟨(Am b).1,false,q⟩ wb (A7 _) (by omega) (by omega)] at hq
 obtain ⟨g1,_,g3⟩:=HL.pm ⟨(Am b).1,false,q⟩ ⟨(Am b).1,false,0⟩ rfl rfl
 have hW:(HL.run ⟨(Am (a++10::b)).1,false,0⟩).1=tP (HL.run ⟨la++[⟨6,[],ea⟩],false,0⟩).1 (HL.run ⟨(Am b).1,false,0⟩).1:=by
  rw [p1,← g1]
  show ((Ds BC [] []).run ⟨la++(Am b).1,false,0⟩).1=_
  rw [hq];rfl
 have hF:(HL.run ⟨(Am (a++10::b)).1,false,0⟩).2.f=false:=by
  rw [p3]
  show ((Ds BC [] []).run ⟨la++(Am b).1,false,0⟩).2.f=false
  rw [hq]
  exact g3.trans b1
 rw [Mv r0]
 unfold Xc
 rw [hF,hW]
 simp only [AU,if_false]
 split<;>rfl
end Go.Ab
namespace Go.Ab
variable {α β:Type}
def SzO (c:Nat) (m:PM α) (μ:α→Nat):Prop:=∀s,WF s.r→(m.run s).2.f=false→μ (m.run s).1+(m.run s).2.r.length≤s.r.length+c
theorem SzO.pure {c:Nat} {a:α} {μ:α→Nat} (h:μ a≤c):SzO c (.pure a) μ:=fun s _ _=>by
 show μ a+s.r.length≤s.r.length+c;omega
theorem SzO.bind {c:Nat} {m:PM α} {f:α→PM β} {μ:α→Nat} {ν:β→Nat} (h:SzO 0 m μ) (hf:∀a,SzO (c+μ a) (f a) ν):SzO c (m.bind f) ν:=fun s hw hs=>by
 have hs':((f (m.run s).1).run (m.run s).2).2.f=false:=hs
 have h1:(m.run s).2.f=false:=by
  cases hc:(m.run s).2.f with
  |false=>rfl
  |true=>have:=((f (m.run s).1).st _ hc).1;rw [hs'] at this;cases this
 have e1:=h s hw h1
 have e2:=hf (m.run s).1 (m.run s).2 (m.sf s hw).1 hs'
 show ν ((f (m.run s).1).run (m.run s).2).1+((f (m.run s).1).run (m.run s).2).2.r.length≤_
 omega
theorem SzO.acc {c:Nat} {t:Str} {ht:t≠[]} {y n:PM α} {μ:α→Nat} (hy:SzO (c+1) y μ) (hn:SzO c n μ):SzO c (.acc t ht y n) μ:=fun s hw hs=>by
 cases hc:s.hd.text==t with
 |true=>
  have e:(PM.acc t ht y n).run s=y.run s.adv:=if_pos hc
  rw [e] at hs ⊢
  have hk:s.hd.text≠[]:=by rw [beq_iff_eq] at hc;rw [hc];exact ht
  have h1:=hy s.adv (QM hw (.inr hk)).1 hs
  have h2:=BR hw
  omega
 |false=>
  have e:(PM.acc t ht y n).run s=n.run s:=if_neg (by rw [hc];decide)
  rw [e] at hs ⊢
  exact hn s hw hs
theorem SzO.kind {c:Nat} {k:Int} {y n:PM α} {μ:α→Nat} (hy:SzO c y μ) (hn:SzO c n μ):SzO c (.kind k y n) μ:=fun s hw hs=>by
 cases hc:s.hd.kind==k with
 |true=>
  have e:(PM.kind k y n).run s=y.run s:=if_pos hc
  rw [e] at hs ⊢
  exact hy s hw hs
 |false=>
  have e:(PM.kind k y n).run s=n.run s:=if_neg (by rw [hc];decide)
  rw [e] at hs ⊢
  exact hn s hw hs
theorem SzO.fail {c:Nat} {a:α} {μ:α→Nat}:SzO c (.fail a) μ:=fun s _ h=>by cases h
theorem SzO.tok {cc:Int→Str→Bool} {hc:∀k t,cc k t=true→k≠6∨t≠[]} {g:Str→α} {b:α}:SzO 0 (.tok cc hc g b) (fun _=>1):=fun s hw hs=>by
 cases hcc:cc s.hd.kind s.hd.text with
 |true=>
  have e:(PM.tok cc hc g b).run s=(g s.hd.text,s.adv):=if_pos hcc
  rw [e]
  have h2:=BR hw
  show 1+s.adv.r.length≤_
  omega
 |false=>
  have e:(PM.tok cc hc g b).run s=(b,s.fail):=if_neg (by rw [hcc];decide)
  rw [e] at hs
  cases hs
theorem SzO.mono {c:Nat} {m:PM α} {μ ν:α→Nat} (h:SzO c m μ) (hl:∀a,ν a≤μ a):SzO c m ν:=fun s hw hs=>by
 have:=h s hw hs;have:=hl (m.run s).1;omega
def Dz (μ:α→Nat) (l:List α):Nat:=(l.map μ).sum
theorem fD (μ:α→Nat) (l m:List α):Dz μ (l++m)=Dz μ l+Dz μ m:=by simp [Dz]
theorem Ye (μ:α→Nat) (x:α):Dz μ [x]=μ x:=by simp [Dz]
theorem VD {μ:α→Nat} {l:List α} {x:α} (h:x∈l):μ x≤Dz μ l:=by
 induction l with
 |nil=>cases h
 |cons y l ih=>
  simp only [Dz,AF,List.sum_cons] at ih ⊢
  rcases Bv.1 h with rfl|h
  · omega
  · have:=ih h;omega
theorem Yg {read:PM α} {t:Str} {ht:t≠[]} {μ:α→Nat} (h:SzO 0 read μ):∀(n c:Nat) (l:List α),Dz μ l≤c→SzO c (EZ read t ht n l) (Dz μ)
 |0,c,l,hl=>SzO.pure hl
 |n+1,c,l,hl=>SzO.acc (SzO.bind h (fun a=>Yg h n _ _ (by rw [fD,Ye];omega))) (SzO.pure hl)
theorem aF {read:PM α} {t:Str} {ht:t≠[]} {μ:α→Nat} (h:SzO 0 read μ):SzO 0 (items read t ht) (Dz μ):=
 SzO.bind h (fun a=>Yg h _ _ _ (by rw [Ye];omega))
theorem Nk {t:Str} {ht:t≠[]}:SzO 0 (.exp t ht) (fun _=>1):=SzO.tok
theorem SQ {k:Int} {hk:k≠6}:SzO 0 (.take k hk) (fun _=>1):=SzO.tok
theorem UI {read:PM α} {μ:α→Nat} (h:SzO 0 read μ):SzO 0 (listed read) (Dz μ):=SzO.bind (aF h) (fun a=>SzO.bind Nk (fun _=>SzO.pure (by omega)))
theorem jM {read:PM α} {μ:α→Nat} (h:SzO 0 read μ):SzO 0 (closed read) (Dz μ):=SzO.acc (SzO.pure (by simp [Dz])) (UI h)
theorem Yh {read:PM α} {μ:α→Nat} (h:SzO 0 read μ):SzO 0 (Ht read) (Dz μ):=SzO.acc (fun s hw hs=>by have:=UI h s hw hs;omega) (SzO.pure (by simp [Dz]))
theorem PG:∀l:List TE,TE.BS l=Dz TE.size l
 |[]=>rfl
 |t::l=>by rw [TE.BS,PG l];simp [Dz]
theorem lB:∀n,SzO 0 (Fl n) TE.size
 |0=>SzO.fail
 |n+1=>by
  have ih:=lB n
  have hel:∀k,SzO 1 (SA k (Fl n)) TE.size:=fun k=>SzO.bind Nk (fun _=>SzO.bind ih (fun t=>SzO.bind Nk (fun _=>SzO.pure (by simp [TE.size,TE.BS];omega))))
  rw [Fl]
  refine SzO.kind (SzO.bind SQ (fun x=>SzO.pure (by simp [TE.size,TE.BS]))) ?_
  refine SzO.kind (SzO.bind SQ (fun x=>SzO.bind (Yh ih) (fun l=>SzO.pure (by rw [TE.size,PG];omega)))) ?_
  refine SzO.acc (SzO.pure (by simp [TE.size,TE.BS])) (SzO.acc (SzO.pure (by simp [TE.size,TE.BS])) (SzO.acc (SzO.pure (by simp [TE.size,TE.BS])) (SzO.acc (hel 7) (SzO.acc (hel 8) (SzO.acc ?_ (SzO.acc ?_ SzO.fail))))))
  · exact SzO.bind ih (fun a=>SzO.bind Nk (fun _=>SzO.bind (UI ih) (fun l=>SzO.pure (by rw [TE.size,TE.BS,PG];omega))))
  · exact SzO.bind Nk (fun _=>SzO.bind (jM ih) (fun l=>SzO.bind Nk (fun _=>SzO.bind ih (fun t=>SzO.pure (by rw [TE.size,TE.FO,TE.BS,TE.BS,PG];omega)))))
def pC (c:CE):Nat:=Dz TE.size c.args
def gQ (d:DE):Nat:=Dz pC d.cons
theorem wD:SzO 0 bT pC:=SzO.bind SQ (fun c=>SzO.bind (Yh (lB _)) (fun l=>SzO.pure (by show Dz TE.size l≤_;omega)))
theorem sW:SzO 0 JS gQ:=SzO.bind SQ (fun c=>SzO.bind (Yh (μ:=fun _=>0) (SQ.mono (fun _=>by omega))) (fun l=>SzO.bind Nk (fun _=>SzO.bind (aF wD) (fun cs=>SzO.bind Nk (fun _=>SzO.pure (by show Dz pC cs≤_;omega))))))
theorem zro (m:PM α):SzO 0 m (fun _=>0):=fun s hw _=>by have:=(m.sf s hw).2.length_le;simp only;omega
theorem VF:∀(n c:Nat) (ds:List DE) (fs:List FE),Dz gQ ds≤c→SzO c (Ds n ds fs) (fun p=>Dz gQ p.data)
 |0,c,ds,fs,h=>SzO.pure h
 |n+1,c,ds,fs,h=>by
  rw [Ds]
  exact SzO.kind (SzO.pure h) (SzO.acc (SzO.bind sW (fun d=>VF n _ _ _ (by rw [fD,Ye];omega))) (SzO.acc (SzO.bind (zro Pt) (fun f=>VF n _ _ _ (by omega))) (SzO.bind (zro (PM.fail ())) (fun _=>VF n _ _ _ (by omega)))))
theorem WQ {r:List Tok} {p:Nat} (hw:WF r) (hl:r.length≤17000) (hf:(HL.run ⟨r,false,p⟩).2.f=false):∀d∈(HL.run ⟨r,false,p⟩).1.data,∀c∈d.cons,∀t∈c.args,t.size≤17000:=by
 have h:=VF BC 0 [] [] (by simp [Dz]) ⟨r,false,p⟩ hw hf
 intro d hd c hc t ht
 have h1:t.size≤pC c:=VD ht
 have h2:pC c≤gQ d:=VD hc
 have h3:gQ d≤Dz gQ (HL.run ⟨r,false,p⟩).1.data:=VD hd
 have h4:Dz gQ (HL.run ⟨r,false,p⟩).1.data+(HL.run ⟨r,false,p⟩).2.r.length≤r.length+0:=h
 omega
end Go.Ab
namespace Go.Ab
open Go.Proofs
variable {args:List AV} {σ:AN} {K:AV→AN→Prop}
def X6:C:=(.seq (.reg [Qo 2 (.al [.AX,.AX] false),
 Qo 3 (.mv (.c (.d (.int .i64 0)))),
 Qo 4 (.mv (.c (.d (.int .i64 0))))] [0,2])
 (.seq (.reg [Qm 11 0,
 Qo 12 (.call 21 [(.t 11)]),
 Qm 10 12,
 Qo 13 (.ext (.t 10) 0),
 Qo 14 (.ext (.t 10) 1),
 Qo 15 (.ext (.t 10) 2),
 Qm 5 13,
 Qm 6 14,
 Qm 7 15] [2,5,6,7])
 (.seq (.seq (.reg [Qm 16 7,
 Qo 17 (.bin .neq (.t 16) (.c (.d (.int .i64 0))))] [2,5,6,7,17])
 (.cond (.t 17) (.seq (.reg [Qo 18 (.bld [.AX,.AX] []),
 Qm 19 6,
 Qm 20 7,
 ⟨none,.st (.t 2) (.t 18) 2,none⟩,
 Qm 3 19,
 Qm 4 20] [2,3,4])
 .ret)
 .skip))
 (.seq (.reg [Qm 21 5,
 Qo 22 (.bld [.AX,(.d (.int .i64 0)),(.d (.bool false)),(.d (.int .i64 0))] [(0,1,(.t 21))]),
 Qo 23 (.box (.t 22) true),
 Qm 8 23] [2,8])
 (.seq (.reg [Qm 24 8,
 Qo 25 (.call 28 [(.t 24)]),
 Qo 9 (.al [.AX,.AX] false),
 ⟨none,.st (.t 9) (.t 25) 2,none⟩] [2,8,9])
 (.seq (.seq (.reg [Qm 26 8,
 Qo 27 (.nck (.t 26)),
 Qo 28 (.fld (.t 27) 2),
 Qo 29 (.ld (.t 28) none)] [2,8,9,29])
 (.cond (.t 29) (.seq (.SD (.one (Qo 30 (.bld [.AX,.AX] []))
 (.one (Qm 31 8)
 (.one (Qo 32 (.nck (.t 31)))
 (.one (Qo 33 (.fld (.t 32) 3))
 (.alt (Qo 34 (.ld (.t 33) none))
 (.one ⟨none,.st (.t 2) (.t 30) 2,none⟩
 (.one (Qm 3 34)
 (.one (Qo 4 (.mv (.c (.d (.int .i64 2)))))
 .done)))
 (.alt ⟨none,.st (.t 2) (.t 30) 2,none⟩
 (.one (Qo 34 (.ld (.t 33) none))
 (.one (Qm 3 34)
 (.one (Qo 4 (.mv (.c (.d (.int .i64 2)))))
 .done)))
 .done)))))) [2,3,4])
 .ret)
 .skip))
 (.seq (.seq (.reg [Qo 35 (.ldl (.t 9) (some 2)),
 Qo 36 (.call 19 [(.t 35)]),
 Qo 37 (.un .not (.t 36))] [2,9,37])
 (.cond (.t 37) (.seq (.reg [Qo 38 (.bld [.AX,.AX] []),
 ⟨none,.st (.t 2) (.t 38) 2,none⟩,
 Qo 3 (.mv (.c (.d (.int .i64 0)))),
 Qo 4 (.mv (.c (.d (.int .i64 9))))] [2,3,4])
 .ret)
 .skip))
 (.seq (.reg [Qo 39 (.ldl (.t 9) (some 2)),
 ⟨none,.st (.t 2) (.t 39) 2,none⟩,
 Qo 3 (.mv (.c (.d (.int .i64 0)))),
 Qo 4 (.mv (.c (.d (.int .i64 0))))] [2,3,4])
 .ret))))))))
def Yj:List (List Nat×PT):=[([0,2],.done),([2,5,6,7],.done),([2,5,6,7,17],.done),([2,3,4],.done),([2,8],.done),([2,8,9],.done),([2,8,9,29],.done),([2,3,4],(.one 0 (.one 1 (.one 2 (.one 3 (.alt 4 (.one 5 (.one 6 (.one 7 .done))) (.alt 5 (.one 4 (.one 6 (.one 7 .done))) .done))))))),([2,9,37],.done),([2,3,4],.done),([2,3,4],.done)]
noncomputable def HP:Cx:=⟨Tryz.prog,12,Tryz.f12,40,[23,300035,300039],[],[.c 2 (some 2),.t 3,.t 4]⟩
theorem Gy:Good HP:=⟨Tryz.func12,by kernel_rfl⟩
theorem Wf:HP.rs=[.c 2 (some 2),.t 3,.t 4]:=rfl
theorem Xn (hl:args.length≤40) (h:Run HP K [.code X6] (Aq args) E σ):AQ Tryz.prog 12 args σ K:=
 AW (cx:=HP) (code:=Tryz.f12.body.getD .skip) Gy (by kernel_rfl) Tryz.ntmps12 hl (AZ HP _ Yj _ [] (by kernel_rfl)) h
def M7:C:=(.seq (.seq (.reg [Qm 4 0,
 Qo 5 (.call 64 [(.t 4)]),
 Qo 6 (.fd (.t 5) 0 none),
 Qo 7 (.bin .neq (.t 6) (.c (.d (.int .i64 6))))] [0,2,3,7])
 (.cond (.t 7) .skip
 (.exit 0)))
 (.block 1 (.block 2 (.seq (.reg [Qm 11 0,
 Qo 12 (.call 65 [(.t 11),(.c (.d (.str [100,97,116,97])))]),
 Qm 10 12] [0,2,3,10])
 (.cond (.t 10) (.reg [Qo 13 (.fld (.t 3) 0),
 Qo 14 (.ldl (.t 13) none),
 Qm 15 0,
 Qo 16 (.call 66 [(.t 15)]),
 Qo 17 (.bsl 3 1 [(.d (.str [])),.AX,.AX] [(0,3,(.t 16))]),
 Qo 18 (.app 61 3 64 (.t 14) (.t 17)),
 Qo 19 (.fld (.t 3) 0),
 ⟨none,.st (.t 19) (.t 18) 1,none⟩] [0,2,3])
 (.seq (.reg [Qm 21 0,
 Qo 22 (.call 65 [(.t 21),(.c (.d (.str [102,117,110])))]),
 Qm 20 22] [0,2,3,20])
 (.cond (.t 20) (.reg [Qo 23 (.fld (.t 3) 1),
 Qo 24 (.ldl (.t 23) none),
 Qm 25 0,
 Qo 26 (.call 67 [(.t 25)]),
 Qo 27 (.bsl 8 1 [(.d (.str [])),.AX,(.d (.int .i64 0)),(.d (.str [])),(.d (.int .i64 0)),.AX,.AX,.AX] [(0,8,(.t 26))]),
 Qo 28 (.app 66 8 144 (.t 24) (.t 27)),
 Qo 29 (.fld (.t 3) 1),
 ⟨none,.st (.t 29) (.t 28) 1,none⟩] [0,2,3])
 (.reg [Qm 8 0,
 Qo 9 (.call 68 [(.t 8)])] [0,2,3]))))))))
def IW:C:=(.seq (.reg [Qo 2 (.al [.AX,.AX] false)] [0,2])
 (.seq (.reg [Qo 3 (.al [.AX,.AX] false)] [0,2,3])
 (.seq (.block 0 (.loop M7))
 (.seq (.reg [Qo 30 (.ldl (.t 3) (some 2)),
 ⟨none,.st (.t 2) (.t 30) 2,none⟩] [2])
 .ret))))
noncomputable def Bk:Cx:=⟨Tryz.prog,28,Tryz.f28,31,[300014,300024,300030],[],[.c 2 (some 2)]⟩
theorem I3:Good Bk:=⟨Tryz.func28,by kernel_rfl⟩
theorem OI:Bk.rs=[.c 2 (some 2)]:=rfl
theorem O6 (hl:args.length≤31) (h:Run Bk K [.code IW] (Aq args) E σ):AQ Tryz.prog 28 args σ K:=
 AW (cx:=Bk) (code:=Tryz.f28.body.getD .skip) I3 (by kernel_rfl) Tryz.ntmps28 hl (AZ Bk _ (Av IW) _ [] (by kernel_rfl)) h
def Ke:C:=(.seq (.reg [Qo 2 (.al [(.d (.int .i64 0)),(.d (.str [])),(.d (.int .i64 0))] false)] [0,2])
 (.seq (.reg [Qm 3 0,
 Qo 4 (.nck (.t 3)),
 Qo 5 (.fld (.t 4) 0),
 Qo 6 (.ld (.t 5) none),
 Qm 7 0,
 Qo 8 (.nck (.t 7)),
 Qo 9 (.fld (.t 8) 1),
 Qo 10 (.ld (.t 9) none),
 Qo 11 (.ix (.t 6) (.t 10) 3),
 Qo 12 (.ld (.t 11) (some 3)),
 ⟨none,.st (.t 2) (.t 12) 3,none⟩] [2])
 .ret))
noncomputable def EJ:Cx:=⟨Tryz.prog,64,Tryz.f64,13,[],[],[.c 2 (some 3)]⟩
theorem Kv:Good EJ:=⟨Tryz.func64,by kernel_rfl⟩
theorem Qz:EJ.rs=[.c 2 (some 3)]:=rfl
theorem Rh (hl:args.length≤13) (h:Run EJ K [.code Ke] (Aq args) E σ):AQ Tryz.prog 64 args σ K:=
 AW (cx:=EJ) (code:=Tryz.f64.body.getD .skip) Kv (by kernel_rfl) Tryz.ntmps64 hl (AZ EJ _ (Av Ke) _ [] (by kernel_rfl)) h
def Ix:C:=(.seq (.reg [Qo 4 (.mv (.c (.d (.bool false))))] [0,1])
 (.seq (.seq (.reg [Qm 5 0,
 Qo 6 (.call 64 [(.t 5)]),
 Qo 7 (.fd (.t 6) 1 none),
 Qm 8 1,
 Qo 9 (.bin .neq (.t 7) (.t 8))] [0,9])
 (.cond (.t 9) (.seq (.reg [Qo 4 (.mv (.c (.d (.bool false))))] [4])
 .ret)
 .skip))
 (.seq (.reg [Qm 10 0,
 Qo 11 (.nck (.t 10)),
 Qo 12 (.fld (.t 11) 1),
 Qo 13 (.ld (.t 12) none),
 Qo 14 (.bin .add (.t 13) (.c (.d (.int .i64 1)))),
 Qo 15 (.nck (.t 10)),
 Qo 16 (.fld (.t 15) 1),
 ⟨none,.st (.t 16) (.t 14) 1,none⟩] [])
 (.seq (.reg [Qo 4 (.mv (.c (.d (.bool true))))] [4])
 .ret))))
noncomputable def DU:Cx:=⟨Tryz.prog,65,Tryz.f65,17,[],[],[.t 4]⟩
theorem GC:Good DU:=⟨Tryz.func65,by kernel_rfl⟩
theorem Ow:DU.rs=[.t 4]:=rfl
theorem JO (hl:args.length≤17) (h:Run DU K [.code Ix] (Aq args) E σ):AQ Tryz.prog 65 args σ K:=
 AW (cx:=DU) (code:=Tryz.f65.body.getD .skip) GC (by kernel_rfl) Tryz.ntmps65 hl (AZ DU _ (Av Ix) _ [] (by kernel_rfl)) h
def Ka:C:=(.seq (.reg [Qo 2 (.al [(.d (.str [])),.AX,.AX] false)] [0,2])
 (.seq (.reg [Qm 4 0,
 Qo 5 (.call 124 [(.t 4),(.c (.d (.int .i64 2)))]),
 Qo 6 (.bld [(.d (.str [])),.AX,.AX] [(0,1,(.t 5))]),
 Qo 3 (.al [(.d (.str [])),.AX,.AX] false),
 ⟨none,.st (.t 3) (.t 6) 3,none⟩] [0,2,3])
 (.seq (.reg [Qm 7 0,
 Qm 8 0,
 Qo 9 (.mkf 126 [(.t 8)] []),
 Qo 10 (.call 125 [(.t 7),(.t 9)]),
 Qo 11 (.fld (.t 3) 1),
 ⟨none,.st (.t 11) (.t 10) 1,none⟩] [0,2,3])
 (.seq (.reg [Qm 12 0,
 Qo 13 (.call 127 [(.t 12),(.c (.d (.str [61])))])] [0,2,3])
 (.seq (.reg [Qm 14 0,
 Qm 15 0,
 Qo 16 (.mkf 129 [(.t 15)] []),
 Qo 17 (.call 128 [(.t 14),(.c (.d (.str [124]))),(.t 16)]),
 Qo 18 (.fld (.t 3) 2),
 ⟨none,.st (.t 18) (.t 17) 1,none⟩] [0,2,3])
 (.seq (.reg [Qm 19 0,
 Qo 20 (.call 127 [(.t 19),(.c (.d (.str [59])))])] [2,3])
 (.seq (.reg [Qo 21 (.ldl (.t 3) (some 3)),
 ⟨none,.st (.t 2) (.t 21) 3,none⟩] [2])
 .ret)))))))
noncomputable def EF:Cx:=⟨Tryz.prog,66,Tryz.f66,22,[300021],[],[.c 2 (some 3)]⟩
theorem Kt:Good EF:=⟨Tryz.func66,by kernel_rfl⟩
theorem Qv:EF.rs=[.c 2 (some 3)]:=rfl
theorem Rc (hl:args.length≤22) (h:Run EF K [.code Ka] (Aq args) E σ):AQ Tryz.prog 66 args σ K:=
 AW (cx:=EF) (code:=Tryz.f66.body.getD .skip) Kt (by kernel_rfl) Tryz.ntmps66 hl (AZ EF _ (Av Ka) _ [] (by kernel_rfl)) h
def Ll:C:=(.seq (.reg [Qo 2 (.al [(.d (.str [])),.AX,(.d (.int .i64 0)),(.d (.str [])),(.d (.int .i64 0)),.AX,.AX,.AX] false)] [0,2])
 (.seq (.reg [Qm 4 0,
 Qo 5 (.call 126 [(.t 4)]),
 Qo 6 (.bld [(.d (.str [])),.AX,(.d (.int .i64 0)),(.d (.str [])),(.d (.int .i64 0)),.AX,.AX,.AX] [(0,1,(.t 5))]),
 Qo 3 (.al [(.d (.str [])),.AX,(.d (.int .i64 0)),(.d (.str [])),(.d (.int .i64 0)),.AX,.AX,.AX] false),
 ⟨none,.st (.t 3) (.t 6) 8,none⟩] [0,2,3])
 (.seq (.reg [Qm 7 0,
 Qo 8 (.call 127 [(.t 7),(.c (.d (.str [40])))])] [0,2,3])
 (.seq (.reg [Qm 9 0,
 Qm 10 0,
 Qo 11 (.mkf 126 [(.t 10)] []),
 Qo 12 (.call 130 [(.t 9),(.t 11)]),
 Qo 13 (.fld (.t 3) 1),
 ⟨none,.st (.t 13) (.t 12) 1,none⟩] [0,2,3])
 (.seq (.reg [Qm 14 0,
 Qo 15 (.call 127 [(.t 14),(.c (.d (.str [61])))])] [0,2,3])
 (.seq (.reg [Qm 16 0,
 Qo 17 (.call 131 [(.t 16)]),
 Qo 18 (.fld (.t 3) 2),
 ⟨none,.st (.t 18) (.t 17) 6,none⟩] [0,2,3])
 (.seq (.reg [Qm 19 0,
 Qo 20 (.call 127 [(.t 19),(.c (.d (.str [59])))])] [2,3])
 (.seq (.reg [Qo 21 (.ldl (.t 3) (some 8)),
 ⟨none,.st (.t 2) (.t 21) 8,none⟩] [2])
 .ret))))))))
noncomputable def E8:Cx:=⟨Tryz.prog,67,Tryz.f67,22,[300021],[],[.c 2 (some 8)]⟩
theorem Lu:Good E8:=⟨Tryz.func67,by kernel_rfl⟩
theorem SI:E8.rs=[.c 2 (some 8)]:=rfl
theorem Ss (hl:args.length≤22) (h:Run E8 K [.code Ll] (Aq args) E σ):AQ Tryz.prog 67 args σ K:=
 AW (cx:=E8) (code:=Tryz.f67.body.getD .skip) Lu (by kernel_rfl) Tryz.ntmps67 hl (AZ E8 _ (Av Ll) _ [] (by kernel_rfl)) h
def Kc:C:=(.seq (.seq (.reg [Qm 2 0,
 Qo 3 (.nck (.t 2)),
 Qo 4 (.fld (.t 3) 2),
 Qo 5 (.ld (.t 4) none),
 Qo 6 (.un .not (.t 5))] [0,6])
 (.cond (.t 6) (.reg [Qm 7 0,
 Qm 8 0,
 Qm 9 0,
 Qo 10 (.call 64 [(.t 9)]),
 Qo 11 (.fd (.t 10) 2 none),
 Qo 12 (.nck (.t 7)),
 Qo 13 (.fld (.t 12) 2),
 ⟨none,.st (.t 13) (.c (.d (.bool true))) 1,none⟩,
 Qo 14 (.nck (.t 8)),
 Qo 15 (.fld (.t 14) 3),
 ⟨none,.st (.t 15) (.t 11) 1,none⟩] [0])
 .skip))
 (.reg [Qm 16 0,
 Qm 17 0,
 Qo 18 (.nck (.t 17)),
 Qo 19 (.fld (.t 18) 0),
 Qo 20 (.ld (.t 19) none),
 Qo 21 (.len (.t 20)),
 Qo 22 (.bin .sub (.t 21) (.c (.d (.int .i64 1)))),
 Qo 23 (.nck (.t 16)),
 Qo 24 (.fld (.t 23) 1),
 ⟨none,.st (.t 24) (.t 22) 1,none⟩] []))
noncomputable def EH:Cx:=⟨Tryz.prog,68,Tryz.f68,25,[],[],[]⟩
theorem HF:Good EH:=⟨Tryz.func68,by kernel_rfl⟩
theorem Qx:EH.rs=[]:=rfl
theorem Rf (hl:args.length≤25) (h:Run EH K [.code Kc] (Aq args) E σ):AQ Tryz.prog 68 args σ K:=
 AW (cx:=EH) (code:=Tryz.f68.body.getD .skip) HF (by kernel_rfl) Tryz.ntmps68 hl (AZ EH _ (Av Kc) _ [] (by kernel_rfl)) h
def Jd:C:=(.seq (.reg [Qo 2 (.mv (.c (.d (.str []))))] [0])
 (.seq (.seq (.reg [Qm 3 0] [3])
 (.block 0 (.seq (.reg [Qo 5 (.bin .eql (.t 3) (.c (.d (.int .i64 1)))),
 Qm 4 5] [3,4])
 (.cond (.t 4) (.seq (.reg [Qo 2 (.mv (.c (.d (.str [43]))))] [2])
 .ret)
 (.seq (.reg [Qo 7 (.bin .eql (.t 3) (.c (.d (.int .i64 2)))),
 Qm 6 7] [3,6])
 (.cond (.t 6) (.seq (.reg [Qo 2 (.mv (.c (.d (.str [45]))))] [2])
 .ret)
 (.seq (.reg [Qo 9 (.bin .eql (.t 3) (.c (.d (.int .i64 3)))),
 Qm 8 9] [3,8])
 (.cond (.t 8) (.seq (.reg [Qo 2 (.mv (.c (.d (.str [42]))))] [2])
 .ret)
 (.seq (.reg [Qo 11 (.bin .eql (.t 3) (.c (.d (.int .i64 4)))),
 Qm 10 11] [3,10])
 (.cond (.t 10) (.seq (.reg [Qo 2 (.mv (.c (.d (.str [47]))))] [2])
 .ret)
 (.seq (.reg [Qo 13 (.bin .eql (.t 3) (.c (.d (.int .i64 5)))),
 Qm 12 13] [3,12])
 (.cond (.t 12) (.seq (.reg [Qo 2 (.mv (.c (.d (.str [37]))))] [2])
 .ret)
 (.seq (.reg [Qo 15 (.bin .eql (.t 3) (.c (.d (.int .i64 6)))),
 Qm 14 15] [3,14])
 (.cond (.t 14) (.seq (.reg [Qo 2 (.mv (.c (.d (.str [60]))))] [2])
 .ret)
 (.seq (.reg [Qo 17 (.bin .eql (.t 3) (.c (.d (.int .i64 7)))),
 Qm 16 17] [16])
 (.cond (.t 16) (.seq (.reg [Qo 2 (.mv (.c (.d (.str [60,61]))))] [2])
 .ret)
 .skip))))))))))))))))
 (.seq (.reg [Qo 2 (.mv (.c (.d (.str [61,61]))))] [2])
 .ret)))
noncomputable def D9:Cx:=⟨Tryz.prog,91,Tryz.f91,18,[],[],[.t 2]⟩
theorem Jo:Good D9:=⟨Tryz.func91,by kernel_rfl⟩
theorem QA:D9.rs=[.t 2]:=rfl
theorem Qd (hl:args.length≤18) (h:Run D9 K [.code Jd] (Aq args) E σ):AQ Tryz.prog 91 args σ K:=
 AW (cx:=D9) (code:=Tryz.f91.body.getD .skip) Jo (by kernel_rfl) Tryz.ntmps91 hl (AZ D9 _ (Av Jd) _ [] (by kernel_rfl)) h
def Kh:C:=(.seq (.reg [Qo 4 (.mv (.c (.d (.str []))))] [0,1])
 (.seq (.reg [Qm 6 0,
 Qo 7 (.call 64 [(.t 6)]),
 Qo 5 (.al [(.d (.int .i64 0)),(.d (.str [])),(.d (.int .i64 0))] false),
 ⟨none,.st (.t 5) (.t 7) 3,none⟩] [0,1,5])
 (.seq (.seq (.reg [Qo 8 (.fld (.t 5) 0),
 Qo 9 (.ldl (.t 8) none),
 Qm 10 1,
 Qo 11 (.bin .neq (.t 9) (.t 10))] [0,5,11])
 (.cond (.t 11) (.seq (.reg [Qm 12 0,
 Qo 13 (.call 68 [(.t 12)])] [])
 (.seq (.reg [Qo 4 (.mv (.c (.d (.str []))))] [4])
 .ret))
 .skip))
 (.seq (.reg [Qm 14 0,
 Qo 15 (.nck (.t 14)),
 Qo 16 (.fld (.t 15) 1),
 Qo 17 (.ld (.t 16) none),
 Qo 18 (.bin .add (.t 17) (.c (.d (.int .i64 1)))),
 Qo 19 (.nck (.t 14)),
 Qo 20 (.fld (.t 19) 1),
 ⟨none,.st (.t 20) (.t 18) 1,none⟩] [5])
 (.seq (.reg [Qo 21 (.fld (.t 5) 1),
 Qo 22 (.ldl (.t 21) none),
 Qm 4 22] [4])
 .ret)))))
noncomputable def EN:Cx:=⟨Tryz.prog,124,Tryz.f124,23,[300009,300022],[],[.t 4]⟩
theorem HG:Good EN:=⟨Tryz.func124,by kernel_rfl⟩
theorem RE:EN.rs=[.t 4]:=rfl
theorem Rk (hl:args.length≤23) (h:Run EN K [.code Kh] (Aq args) E σ):AQ Tryz.prog 124 args σ K:=
 AW (cx:=EN) (code:=Tryz.f124.body.getD .skip) HG (by kernel_rfl) Tryz.ntmps124 hl (AZ EN _ (Av Kh) _ [] (by kernel_rfl)) h
def Iw:C:=(.seq (.reg [Qo 4 (.mv (.c .AX))] [0,1])
 (.seq (.seq (.reg [Qm 5 0,
 Qo 6 (.call 65 [(.t 5),(.c (.d (.str [40])))]),
 Qo 7 (.un .not (.t 6))] [0,1,7])
 (.cond (.t 7) (.seq (.reg [Qo 4 (.mv (.c .AX))] [4])
 .ret)
 .skip))
 (.seq (.reg [Qm 8 0,
 Qm 9 1,
 Qo 10 (.call 166 [(.t 8),(.t 9)]),
 Qm 4 10] [4])
 .ret)))
noncomputable def DS:Cx:=⟨Tryz.prog,125,Tryz.f125,11,[],[],[.t 4]⟩
theorem GB:Good DS:=⟨Tryz.func125,by kernel_rfl⟩
theorem Ov:DS.rs=[.t 4]:=rfl
theorem Ph (hl:args.length≤11) (h:Run DS K [.code Iw] (Aq args) E σ):AQ Tryz.prog 125 args σ K:=
 AW (cx:=DS) (code:=Tryz.f125.body.getD .skip) GB (by kernel_rfl) Tryz.ntmps125 hl (AZ DS _ (Av Iw) _ [] (by kernel_rfl)) h
def Kd:C:=(.seq (.reg [Qo 2 (.mv (.c (.d (.str []))))] [0])
 (.seq (.reg [Qm 3 0,
 Qo 4 (.call 124 [(.t 3),(.c (.d (.int .i64 1)))]),
 Qm 2 4] [2])
 .ret))
noncomputable def EI:Cx:=⟨Tryz.prog,126,Tryz.f126,5,[],[],[.t 2]⟩
theorem Ku:Good EI:=⟨Tryz.func126,by kernel_rfl⟩
theorem Qy:EI.rs=[.t 2]:=rfl
theorem Rg (hl:args.length≤5) (h:Run EI K [.code Kd] (Aq args) E σ):AQ Tryz.prog 126 args σ K:=
 AW (cx:=EI) (code:=Tryz.f126.body.getD .skip) Ku (by kernel_rfl) Tryz.ntmps126 hl (AZ EI _ (Av Kd) _ [] (by kernel_rfl)) h
def Iz:C:=(.seq (.reg [Qm 4 0,
 Qm 5 1,
 Qo 6 (.call 65 [(.t 4),(.t 5)]),
 Qo 7 (.un .not (.t 6))] [0,7])
 (.cond (.t 7) (.reg [Qm 8 0,
 Qo 9 (.call 68 [(.t 8)])] [])
 .skip))
noncomputable def DW:Cx:=⟨Tryz.prog,127,Tryz.f127,10,[],[],[]⟩
theorem GD:Good DW:=⟨Tryz.func127,by kernel_rfl⟩
theorem Ox:DW.rs=[]:=rfl
theorem Pj (hl:args.length≤10) (h:Run DW K [.code Iz] (Aq args) E σ):AQ Tryz.prog 127 args σ K:=
 AW (cx:=DW) (code:=Tryz.f127.body.getD .skip) GD (by kernel_rfl) Tryz.ntmps127 hl (AZ DW _ (Av Iz) _ [] (by kernel_rfl)) h
def K7:C:=(.seq (.seq (.reg [Qm 11 0,
 Qm 12 1,
 Qo 13 (.call 65 [(.t 11),(.t 12)])] [0,1,2,7,13])
 (.cond (.t 13) .skip
 (.exit 0)))
 (.block 1 (.reg [Qm 14 7,
 Qm 15 2,
 Qo 16 (.EU (.t 15) []),
 Qo 17 (.bsl 2 1 [(.d (.str [])),.AX] [(0,2,(.t 16))]),
 Qo 18 (.app 72 2 40 (.t 14) (.t 17)),
 Qm 7 18] [0,1,2,7])))
def Gr:C:=(.seq (.reg [Qo 6 (.mv (.c .AX))] [0,1,2])
 (.seq (.reg [Qm 8 2,
 Qo 9 (.EU (.t 8) []),
 Qo 10 (.M5 72 2 1 [(.d (.str [])),.AX] [(0,2,(.t 9))]),
 Qm 7 10] [0,1,2,7])
 (.seq (.block 0 (.loop K7))
 (.seq (.reg [Qm 19 7,
 Qm 6 19] [6])
 .ret))))
noncomputable def CZ:Cx:=⟨Tryz.prog,128,Tryz.f128,20,[10],[],[.t 6]⟩
theorem HA:Good CZ:=⟨Tryz.func128,by kernel_rfl⟩
theorem MR:CZ.rs=[.t 6]:=rfl
theorem Mp (hl:args.length≤20) (h:Run CZ K [.code Gr] (Aq args) E σ):AQ Tryz.prog 128 args σ K:=
 AW (cx:=CZ) (code:=Tryz.f128.body.getD .skip) HA (by kernel_rfl) Tryz.ntmps128 hl (AZ CZ _ (Av Gr) _ [] (by kernel_rfl)) h
def Lk:C:=(.seq (.reg [Qo 2 (.al [(.d (.str [])),.AX] false)] [0,2])
 (.seq (.reg [Qm 4 0,
 Qo 5 (.call 124 [(.t 4),(.c (.d (.int .i64 2)))]),
 Qo 6 (.bld [(.d (.str [])),.AX] [(0,1,(.t 5))]),
 Qo 3 (.al [(.d (.str [])),.AX] false),
 ⟨none,.st (.t 3) (.t 6) 2,none⟩] [0,2,3])
 (.seq (.reg [Qm 7 0,
 Qm 8 0,
 Qo 9 (.mkf 168 [(.t 8)] []),
 Qo 10 (.call 167 [(.t 7),(.t 9)]),
 Qo 11 (.fld (.t 3) 1),
 ⟨none,.st (.t 11) (.t 10) 1,none⟩] [2,3])
 (.seq (.reg [Qo 12 (.ldl (.t 3) (some 2)),
 ⟨none,.st (.t 2) (.t 12) 2,none⟩] [2])
 .ret))))
noncomputable def E7:Cx:=⟨Tryz.prog,129,Tryz.f129,13,[300012],[],[.c 2 (some 2)]⟩
theorem Lt:Good E7:=⟨Tryz.func129,by kernel_rfl⟩
theorem SH:E7.rs=[.c 2 (some 2)]:=rfl
theorem Sr (hl:args.length≤13) (h:Run E7 K [.code Lk] (Aq args) E σ):AQ Tryz.prog 129 args σ K:=
 AW (cx:=E7) (code:=Tryz.f129.body.getD .skip) Lt (by kernel_rfl) Tryz.ntmps129 hl (AZ E7 _ (Av Lk) _ [] (by kernel_rfl)) h
def Iq:C:=(.seq (.reg [Qo 4 (.mv (.c .AX))] [0,1])
 (.seq (.seq (.reg [Qm 5 0,
 Qo 6 (.call 65 [(.t 5),(.c (.d (.str [41])))])] [0,1,6])
 (.cond (.t 6) (.seq (.reg [Qo 4 (.mv (.c .AX))] [4])
 .ret)
 .skip))
 (.seq (.reg [Qm 7 0,
 Qm 8 1,
 Qo 9 (.call 166 [(.t 7),(.t 8)]),
 Qm 4 9] [4])
 .ret)))
noncomputable def DN:Cx:=⟨Tryz.prog,130,Tryz.f130,10,[],[],[.t 4]⟩
theorem Fz:Good DN:=⟨Tryz.func130,by kernel_rfl⟩
theorem On:DN.rs=[.t 4]:=rfl
theorem Pb (hl:args.length≤10) (h:Run DN K [.code Iq] (Aq args) E σ):AQ Tryz.prog 130 args σ K:=
 AW (cx:=DN) (code:=Tryz.f130.body.getD .skip) Fz (by kernel_rfl) Tryz.ntmps130 hl (AZ DN _ (Av Iq) _ [] (by kernel_rfl)) h
def Kb:C:=(.seq (.reg [Qo 2 (.al [(.d (.int .i64 0)),(.d (.str [])),(.d (.int .i64 0)),.AX,.AX,.AX] false)] [0,2])
 (.seq (.block 0 (.seq (.reg [Qm 11 0,
 Qo 12 (.call 65 [(.t 11),(.c (.d (.str [108,101,116])))]),
 Qm 10 12] [0,2,10])
 (.cond (.t 10) (.seq (.reg [Qm 13 0,
 Qo 14 (.call 169 [(.t 13)]),
 ⟨none,.st (.t 2) (.t 14) 6,none⟩] [2])
 .ret)
 (.seq (.reg [Qm 16 0,
 Qo 17 (.call 65 [(.t 16),(.c (.d (.str [105,102])))]),
 Qm 15 17] [0,2,15])
 (.cond (.t 15) (.seq (.reg [Qm 18 0,
 Qo 19 (.call 131 [(.t 18)]),
 Qo 3 (.al [(.d (.int .i64 0)),(.d (.str [])),(.d (.int .i64 0)),.AX,.AX,.AX] false),
 ⟨none,.st (.t 3) (.t 19) 6,none⟩] [0,2,3])
 (.seq (.reg [Qm 20 0,
 Qo 21 (.call 127 [(.t 20),(.c (.d (.str [116,104,101,110])))])] [0,2,3])
 (.seq (.reg [Qm 22 0,
 Qo 23 (.call 131 [(.t 22)]),
 Qo 4 (.al [(.d (.int .i64 0)),(.d (.str [])),(.d (.int .i64 0)),.AX,.AX,.AX] false),
 ⟨none,.st (.t 4) (.t 23) 6,none⟩] [0,2,3,4])
 (.seq (.reg [Qm 24 0,
 Qo 25 (.call 127 [(.t 24),(.c (.d (.str [101,108,115,101])))])] [0,2,3,4])
 (.seq (.reg [Qo 26 (.ldl (.t 3) (some 6)),
 Qo 27 (.ldl (.t 4) (some 6)),
 Qm 28 0,
 Qo 29 (.call 131 [(.t 28)]),
 Qo 30 (.bsl 6 3 [(.d (.int .i64 0)),(.d (.str [])),(.d (.int .i64 0)),.AX,.AX,.AX,(.d (.int .i64 0)),(.d (.str [])),(.d (.int .i64 0)),.AX,.AX,.AX,(.d (.int .i64 0)),(.d (.str [])),(.d (.int .i64 0)),.AX,.AX,.AX] [(0,6,(.t 26)),(6,6,(.t 27)),(12,6,(.t 29))]),
 Qo 31 (.bld [(.d (.int .i64 0)),(.d (.str [])),(.d (.int .i64 0)),.AX,.AX,.AX] [(0,1,(.c (.d (.int .i64 9)))),(4,1,(.t 30))]),
 ⟨none,.st (.t 2) (.t 31) 6,none⟩] [2])
 .ret)))))
 (.seq (.reg [Qm 33 0,
 Qo 34 (.call 65 [(.t 33),(.c (.d (.str [109,97,116,99,104])))]),
 Qm 32 34] [0,2,32])
 (.cond (.t 32) (.seq (.reg [Qm 35 0,
 Qo 36 (.call 131 [(.t 35)]),
 Qo 37 (.bsl 6 1 [(.d (.int .i64 0)),(.d (.str [])),(.d (.int .i64 0)),.AX,.AX,.AX] [(0,6,(.t 36))]),
 Qo 38 (.bld [(.d (.int .i64 0)),(.d (.str [])),(.d (.int .i64 0)),.AX,.AX,.AX] [(0,1,(.c (.d (.int .i64 10)))),(4,1,(.t 37))]),
 Qo 5 (.al [(.d (.int .i64 0)),(.d (.str [])),(.d (.int .i64 0)),.AX,.AX,.AX] false),
 ⟨none,.st (.t 5) (.t 38) 6,none⟩] [0,2,5])
 (.seq (.reg [Qm 39 0,
 Qo 40 (.call 127 [(.t 39),(.c (.d (.str [119,105,116,104])))])] [0,2,5])
 (.seq (.reg [Qm 41 0,
 Qm 42 0,
 Qo 43 (.mkf 171 [(.t 42)] []),
 Qo 44 (.call 170 [(.t 41),(.c (.d (.str [124]))),(.t 43)]),
 Qo 45 (.fld (.t 5) 5),
 ⟨none,.st (.t 45) (.t 44) 1,none⟩] [0,2,5])
 (.seq (.reg [Qm 46 0,
 Qo 47 (.call 127 [(.t 46),(.c (.d (.str [101,110,100])))])] [2,5])
 (.seq (.reg [Qo 48 (.ldl (.t 5) (some 6)),
 ⟨none,.st (.t 2) (.t 48) 6,none⟩] [2])
 .ret)))))
 (.seq (.reg [Qm 50 0,
 Qo 51 (.call 65 [(.t 50),(.c (.d (.str [102,110])))]),
 Qm 49 51] [0,2,49])
 (.cond (.t 49) (.seq (.reg [Qm 52 0,
 Qo 53 (.call 127 [(.t 52),(.c (.d (.str [40])))])] [0,2])
 (.seq (.reg [Qm 54 0,
 Qm 55 0,
 Qo 56 (.mkf 126 [(.t 55)] []),
 Qo 57 (.call 130 [(.t 54),(.t 56)]),
 Qo 58 (.bld [(.d (.int .i64 0)),(.d (.str [])),(.d (.int .i64 0)),.AX,.AX,.AX] [(0,1,(.c (.d (.int .i64 11)))),(3,1,(.t 57))]),
 Qo 6 (.al [(.d (.int .i64 0)),(.d (.str [])),(.d (.int .i64 0)),.AX,.AX,.AX] false),
 ⟨none,.st (.t 6) (.t 58) 6,none⟩] [0,2,6])
 (.seq (.reg [Qm 59 0,
 Qo 60 (.call 127 [(.t 59),(.c (.d (.str [45,62])))])] [0,2,6])
 (.seq (.reg [Qm 61 0,
 Qo 62 (.call 131 [(.t 61)]),
 Qo 63 (.bsl 6 1 [(.d (.int .i64 0)),(.d (.str [])),(.d (.int .i64 0)),.AX,.AX,.AX] [(0,6,(.t 62))]),
 Qo 64 (.fld (.t 6) 4),
 ⟨none,.st (.t 64) (.t 63) 1,none⟩] [2,6])
 (.seq (.reg [Qo 65 (.ldl (.t 6) (some 6)),
 ⟨none,.st (.t 2) (.t 65) 6,none⟩] [2])
 .ret)))))
 (.seq (.reg [Qm 67 0,
 Qo 68 (.call 65 [(.t 67),(.c (.d (.str [116,114,121])))]),
 Qm 66 68] [0,2,66])
 (.cond (.t 66) (.seq (.reg [Qm 69 0,
 Qo 70 (.call 131 [(.t 69)]),
 Qo 7 (.al [(.d (.int .i64 0)),(.d (.str [])),(.d (.int .i64 0)),.AX,.AX,.AX] false),
 ⟨none,.st (.t 7) (.t 70) 6,none⟩] [0,2,7])
 (.seq (.reg [Qm 71 0,
 Qo 72 (.call 127 [(.t 71),(.c (.d (.str [99,97,116,99,104])))])] [0,2,7])
 (.seq (.reg [Qm 73 0,
 Qo 74 (.call 172 [(.t 73)]),
 Qm 8 74] [0,2,7,8])
 (.seq (.reg [Qm 75 0,
 Qo 76 (.call 127 [(.t 75),(.c (.d (.str [45,62])))])] [0,2,7,8])
 (.seq (.reg [Qm 77 0,
 Qo 78 (.call 131 [(.t 77)]),
 Qo 9 (.al [(.d (.int .i64 0)),(.d (.str [])),(.d (.int .i64 0)),.AX,.AX,.AX] false),
 ⟨none,.st (.t 9) (.t 78) 6,none⟩] [0,2,7,8,9])
 (.seq (.reg [Qm 79 0,
 Qo 80 (.call 127 [(.t 79),(.c (.d (.str [101,110,100])))])] [2,7,8,9])
 (.seq (.reg [Qm 81 8,
 Qo 82 (.ldl (.t 7) (some 6)),
 Qo 83 (.ldl (.t 9) (some 6)),
 Qo 84 (.bsl 6 2 [(.d (.int .i64 0)),(.d (.str [])),(.d (.int .i64 0)),.AX,.AX,.AX,(.d (.int .i64 0)),(.d (.str [])),(.d (.int .i64 0)),.AX,.AX,.AX] [(0,6,(.t 82)),(6,6,(.t 83))]),
 Qo 85 (.bld [(.d (.int .i64 0)),(.d (.str [])),(.d (.int .i64 0)),.AX,.AX,.AX] [(0,1,(.c (.d (.int .i64 17)))),(1,1,(.t 81)),(4,1,(.t 84))]),
 ⟨none,.st (.t 2) (.t 85) 6,none⟩] [2])
 .ret)))))))
 .skip)))))))))))
 (.seq (.reg [Qm 86 0,
 Qo 87 (.call 173 [(.t 86)]),
 ⟨none,.st (.t 2) (.t 87) 6,none⟩] [2])
 .ret)))
noncomputable def EG:Cx:=⟨Tryz.prog,131,Tryz.f131,88,[300026,300027,300048,300065,300082,300083],[],[.c 2 (some 6)]⟩
theorem CU:Good EG:=⟨Tryz.func131,by kernel_rfl⟩
theorem Qw:EG.rs=[.c 2 (some 6)]:=rfl
theorem Re (hl:args.length≤88) (h:Run EG K [.code Kb] (Aq args) E σ):AQ Tryz.prog 131 args σ K:=
 AW (cx:=EG) (code:=Tryz.f131.body.getD .skip) CU (by kernel_rfl) Tryz.ntmps131 hl (AZ EG _ (Av Kb) _ [] (by kernel_rfl)) h
def Iv:C:=(.seq (.reg [Qo 2 (.mv (.c (.d (.int .i64 0))))] [0])
 (.seq (.seq (.reg [Qm 3 0] [3])
 (.block 0 (.seq (.seq (.reg [Qo 5 (.bin .eql (.t 3) (.c (.d (.int .i64 1)))),
 Qm 4 5] [3,4])
 (.cond (.t 4) .skip
 (.reg [Qo 6 (.bin .eql (.t 3) (.c (.d (.int .i64 2)))),
 Qm 4 6] [3,4])))
 (.cond (.t 4) (.seq (.reg [Qo 2 (.mv (.c (.d (.int .i64 2))))] [2])
 .ret)
 (.seq (.seq (.reg [Qo 8 (.bin .eql (.t 3) (.c (.d (.int .i64 3)))),
 Qm 7 8] [3,7])
 (.cond (.t 7) .skip
 (.seq (.reg [Qo 9 (.bin .eql (.t 3) (.c (.d (.int .i64 4)))),
 Qm 7 9] [3,7])
 (.cond (.t 7) .skip
 (.reg [Qo 10 (.bin .eql (.t 3) (.c (.d (.int .i64 5)))),
 Qm 7 10] [7])))))
 (.cond (.t 7) (.seq (.reg [Qo 2 (.mv (.c (.d (.int .i64 3))))] [2])
 .ret)
 .skip))))))
 (.seq (.reg [Qo 2 (.mv (.c (.d (.int .i64 1))))] [2])
 .ret)))
noncomputable def DR:Cx:=⟨Tryz.prog,138,Tryz.f138,11,[],[],[.t 2]⟩
theorem GA:Good DR:=⟨Tryz.func138,by kernel_rfl⟩
theorem Ou:DR.rs=[.t 2]:=rfl
theorem Pf (hl:args.length≤11) (h:Run DR K [.code Iv] (Aq args) E σ):AQ Tryz.prog 138 args σ K:=
 AW (cx:=DR) (code:=Tryz.f138.body.getD .skip) GA (by kernel_rfl) Tryz.ntmps138 hl (AZ DR _ (Av Iv) _ [] (by kernel_rfl)) h
def It:C:=(.seq (.reg [Qo 4 (.mv (.c .AX))] [0,1])
 (.seq (.reg [Qm 6 0,
 Qm 7 1,
 Qo 8 (.call 182 [(.t 6),(.c (.d (.str [44]))),(.t 7)]),
 Qm 5 8] [0,5])
 (.seq (.reg [Qm 9 0,
 Qo 10 (.call 127 [(.t 9),(.c (.d (.str [41])))])] [5])
 (.seq (.reg [Qm 11 5,
 Qm 4 11] [4])
 .ret))))
noncomputable def DP:Cx:=⟨Tryz.prog,166,Tryz.f166,12,[],[],[.t 4]⟩
theorem JH:Good DP:=⟨Tryz.func166,by kernel_rfl⟩
theorem Oq:DP.rs=[.t 4]:=rfl
theorem Pd (hl:args.length≤12) (h:Run DP K [.code It] (Aq args) E σ):AQ Tryz.prog 166 args σ K:=
 AW (cx:=DP) (code:=Tryz.f166.body.getD .skip) JH (by kernel_rfl) Tryz.ntmps166 hl (AZ DP _ (Av It) _ [] (by kernel_rfl)) h
def GO:C:=(.seq (.reg [Qo 4 (.mv (.c .AX))] [0,1])
 (.seq (.seq (.reg [Qm 5 0,
 Qo 6 (.call 65 [(.t 5),(.c (.d (.str [40])))]),
 Qo 7 (.un .not (.t 6))] [0,1,7])
 (.cond (.t 7) (.seq (.reg [Qo 4 (.mv (.c .AX))] [4])
 .ret)
 .skip))
 (.seq (.reg [Qm 8 0,
 Qm 9 1,
 Qo 10 (.call 183 [(.t 8),(.t 9)]),
 Qm 4 10] [4])
 .ret)))
noncomputable def CA:Cx:=⟨Tryz.prog,167,Tryz.f167,11,[],[],[.t 4]⟩
theorem EY:Good CA:=⟨Tryz.func167,by kernel_rfl⟩
theorem LK:CA.rs=[.t 4]:=rfl
theorem L5 (hl:args.length≤11) (h:Run CA K [.code GO] (Aq args) E σ):AQ Tryz.prog 167 args σ K:=
 AW (cx:=CA) (code:=Tryz.f167.body.getD .skip) EY (by kernel_rfl) Tryz.ntmps167 hl (AZ CA _ (Av GO) _ [] (by kernel_rfl)) h
def Sn:C:=(.seq (.reg [Qo 2 (.al [(.d (.int .i64 0)),(.d (.str [])),.AX] false)] [0,2])
 (.seq (.seq (.reg [Qm 7 0,
 Qo 8 (.call 64 [(.t 7)]),
 Qo 3 (.al [(.d (.int .i64 0)),(.d (.str [])),(.d (.int .i64 0))] false),
 ⟨none,.st (.t 3) (.t 8) 3,none⟩] [0,2,3])
 (.block 0 (.seq (.reg [Qo 10 (.fld (.t 3) 0),
 Qo 11 (.ldl (.t 10) none),
 Qo 12 (.bin .eql (.t 11) (.c (.d (.int .i64 1)))),
 Qm 9 12] [0,2,3,9])
 (.cond (.t 9) (.seq (.reg [Qm 13 0,
 Qo 14 (.call 126 [(.t 13)]),
 Qo 15 (.bld [(.d (.int .i64 0)),(.d (.str [])),.AX] [(0,1,(.c (.d (.int .i64 4)))),(1,1,(.t 14))]),
 ⟨none,.st (.t 2) (.t 15) 3,none⟩] [2])
 .ret)
 (.seq (.reg [Qo 17 (.fld (.t 3) 0),
 Qo 18 (.ldl (.t 17) none),
 Qo 19 (.bin .eql (.t 18) (.c (.d (.int .i64 2)))),
 Qm 16 19] [0,2,16])
 (.cond (.t 16) (.seq (.reg [Qm 20 0,
 Qo 21 (.call 124 [(.t 20),(.c (.d (.int .i64 2)))]),
 Qo 22 (.bld [(.d (.int .i64 0)),(.d (.str [])),.AX] [(0,1,(.c (.d (.int .i64 5)))),(1,1,(.t 21))]),
 Qo 4 (.al [(.d (.int .i64 0)),(.d (.str [])),.AX] false),
 ⟨none,.st (.t 4) (.t 22) 3,none⟩] [0,2,4])
 (.seq (.reg [Qm 23 0,
 Qm 24 0,
 Qo 25 (.mkf 168 [(.t 24)] []),
 Qo 26 (.call 167 [(.t 23),(.t 25)]),
 Qo 27 (.fld (.t 4) 2),
 ⟨none,.st (.t 27) (.t 26) 1,none⟩] [2,4])
 (.seq (.reg [Qo 28 (.ldl (.t 4) (some 3)),
 ⟨none,.st (.t 2) (.t 28) 3,none⟩] [2])
 .ret)))
 (.seq (.reg [Qm 30 0,
 Qo 31 (.call 65 [(.t 30),(.c (.d (.str [105,110,116])))]),
 Qm 29 31] [0,2,29])
 (.cond (.t 29) (.seq (.reg [Qo 32 (.bld [(.d (.int .i64 0)),(.d (.str [])),.AX] [(0,1,(.c (.d (.int .i64 1))))]),
 ⟨none,.st (.t 2) (.t 32) 3,none⟩] [2])
 .ret)
 (.seq (.reg [Qm 34 0,
 Qo 35 (.call 65 [(.t 34),(.c (.d (.str [98,111,111,108])))]),
 Qm 33 35] [0,2,33])
 (.cond (.t 33) (.seq (.reg [Qo 36 (.bld [(.d (.int .i64 0)),(.d (.str [])),.AX] [(0,1,(.c (.d (.int .i64 2))))]),
 ⟨none,.st (.t 2) (.t 36) 3,none⟩] [2])
 .ret)
 (.seq (.reg [Qm 38 0,
 Qo 39 (.call 65 [(.t 38),(.c (.d (.str [117,110,105,116])))]),
 Qm 37 39] [0,2,37])
 (.cond (.t 37) (.seq (.reg [Qo 40 (.bld [(.d (.int .i64 0)),(.d (.str [])),.AX] [(0,1,(.c (.d (.int .i64 3))))]),
 ⟨none,.st (.t 2) (.t 40) 3,none⟩] [2])
 .ret)
 (.seq (.reg [Qm 42 0,
 Qo 43 (.call 65 [(.t 42),(.c (.d (.str [97,114,114,97,121])))]),
 Qm 41 43] [0,2,41])
 (.cond (.t 41) (.seq (.reg [Qm 44 0,
 Qo 45 (.call 184 [(.t 44),(.c (.d (.int .i64 7)))]),
 ⟨none,.st (.t 2) (.t 45) 3,none⟩] [2])
 .ret)
 (.seq (.reg [Qm 47 0,
 Qo 48 (.call 65 [(.t 47),(.c (.d (.str [114,101,102])))]),
 Qm 46 48] [0,2,46])
 (.cond (.t 46) (.seq (.reg [Qm 49 0,
 Qo 50 (.call 184 [(.t 49),(.c (.d (.int .i64 8)))]),
 ⟨none,.st (.t 2) (.t 50) 3,none⟩] [2])
 .ret)
 (.seq (.reg [Qm 52 0,
 Qo 53 (.call 65 [(.t 52),(.c (.d (.str [40])))]),
 Qm 51 53] [0,2,51])
 (.cond (.t 51) (.seq (.reg [Qm 54 0,
 Qo 55 (.call 168 [(.t 54)]),
 Qo 5 (.al [(.d (.int .i64 0)),(.d (.str [])),.AX] false),
 ⟨none,.st (.t 5) (.t 55) 3,none⟩] [0,2,5])
 (.seq (.reg [Qm 56 0,
 Qo 57 (.call 127 [(.t 56),(.c (.d (.str [44])))])] [0,2,5])
 (.seq (.SD (.one (Qo 58 (.ldl (.t 5) (some 3)))
 (.one (Qm 60 0)
 (.one (Qm 61 0)
 (.one (Qo 62 (.mkf 168 [(.t 61)] []))
 (.alt (Qo 59 (.M5 75 3 1 [(.d (.int .i64 0)),(.d (.str [])),.AX] [(0,3,(.t 58))]))
 (.one (Qo 63 (.call 183 [(.t 60),(.t 62)]))
 (.one (Qo 64 (.app 75 3 48 (.t 59) (.t 63)))
 (.one (Qo 65 (.bld [(.d (.int .i64 0)),(.d (.str [])),.AX] [(0,1,(.c (.d (.int .i64 6)))),(2,1,(.t 64))]))
 (.one ⟨none,.st (.t 2) (.t 65) 3,none⟩
 .done))))
 (.alt (Qo 63 (.call 183 [(.t 60),(.t 62)]))
 (.one (Qo 59 (.M5 75 3 1 [(.d (.int .i64 0)),(.d (.str [])),.AX] [(0,3,(.t 58))]))
 (.one (Qo 64 (.app 75 3 48 (.t 59) (.t 63)))
 (.one (Qo 65 (.bld [(.d (.int .i64 0)),(.d (.str [])),.AX] [(0,1,(.c (.d (.int .i64 6)))),(2,1,(.t 64))]))
 (.one ⟨none,.st (.t 2) (.t 65) 3,none⟩
 .done))))
 .done)))))) [2])
 .ret)))
 (.seq (.reg [Qm 67 0,
 Qo 68 (.call 65 [(.t 67),(.c (.d (.str [102,110])))]),
 Qm 66 68] [0,2,66])
 (.cond (.t 66) (.seq (.reg [Qm 69 0,
 Qo 70 (.call 127 [(.t 69),(.c (.d (.str [40])))])] [0,2])
 (.seq (.reg [Qm 71 0,
 Qm 72 0,
 Qo 73 (.mkf 168 [(.t 72)] []),
 Qo 74 (.call 185 [(.t 71),(.t 73)]),
 Qm 6 74] [0,2,6])
 (.seq (.reg [Qm 75 0,
 Qo 76 (.call 127 [(.t 75),(.c (.d (.str [45,62])))])] [0,2,6])
 (.seq (.reg [Qm 77 6,
 Qm 78 0,
 Qo 79 (.call 168 [(.t 78)]),
 Qo 80 (.bsl 3 1 [(.d (.int .i64 0)),(.d (.str [])),.AX] [(0,3,(.t 79))]),
 Qo 81 (.app 75 3 48 (.t 77) (.t 80)),
 Qo 82 (.bld [(.d (.int .i64 0)),(.d (.str [])),.AX] [(0,1,(.c (.d (.int .i64 9)))),(2,1,(.t 81))]),
 ⟨none,.st (.t 2) (.t 82) 3,none⟩] [2])
 .ret))))
 .skip))))))))))))))))))))
 (.seq (.reg [Qm 83 0,
 Qo 84 (.call 68 [(.t 83)])] [2])
 (.seq (.reg [Qo 85 (.bld [(.d (.int .i64 0)),(.d (.str [])),.AX] []),
 ⟨none,.st (.t 2) (.t 85) 3,none⟩] [2])
 .ret))))
def TK:List (List Nat×PT):=[([0,2],.done),([0,2,3],.done),([0,2,3,9],.done),([2],.done),([0,2,16],.done),([0,2,4],.done),([2,4],.done),([2],.done),([0,2,29],.done),([2],.done),([0,2,33],.done),([2],.done),([0,2,37],.done),([2],.done),([0,2,41],.done),([2],.done),([0,2,46],.done),([2],.done),([0,2,51],.done),([0,2,5],.done),([0,2,5],.done),([2],(.one 0 (.one 2 (.one 3 (.one 4 (.alt 1 (.one 5 (.one 6 (.one 7 (.one 8 .done)))) (.alt 5 (.one 1 (.one 6 (.one 7 (.one 8 .done)))) .done))))))),([0,2,66],.done),([0,2],.done),([0,2,6],.done),([0,2,6],.done),([2],.done),([2],.done),([2],.done)]
noncomputable def Eb:Cx:=⟨Tryz.prog,168,Tryz.f168,86,[59,300011,300018,300028,300058],[],[.c 2 (some 3)]⟩
theorem BQ:Good Eb:=⟨Tryz.func168,by kernel_rfl⟩
theorem SL:Eb.rs=[.c 2 (some 3)]:=rfl
theorem Sw (hl:args.length≤86) (h:Run Eb K [.code Sn] (Aq args) E σ):AQ Tryz.prog 168 args σ K:=
 AW (cx:=Eb) (code:=Tryz.f168.body.getD .skip) BQ (by kernel_rfl) Tryz.ntmps168 hl (AZ Eb _ TK _ [] (by kernel_rfl)) h
def Ln:C:=(.seq (.reg [Qo 2 (.al [(.d (.int .i64 0)),(.d (.str [])),(.d (.int .i64 0)),.AX,.AX,.AX] false)] [0,2])
 (.seq (.reg [Qo 3 (.al [(.d (.int .i64 0)),(.d (.str [])),(.d (.int .i64 0)),.AX,.AX,.AX] false)] [0,2,3])
 (.seq (.seq (.reg [Qm 6 0,
 Qo 7 (.call 65 [(.t 6),(.c (.d (.str [40])))])] [0,2,3,7])
 (.cond (.t 7) (.seq (.reg [Qm 8 0,
 Qo 9 (.call 172 [(.t 8)]),
 Qm 4 9] [0,2,3,4])
 (.seq (.reg [Qm 10 0,
 Qo 11 (.call 127 [(.t 10),(.c (.d (.str [44])))])] [0,2,3,4])
 (.reg [Qm 12 4,
 Qo 13 (.M5 9 1 1 [(.d (.str []))] [(0,1,(.t 12))]),
 Qm 14 0,
 Qm 15 0,
 Qo 16 (.mkf 172 [(.t 15)] []),
 Qo 17 (.call 166 [(.t 14),(.t 16)]),
 Qo 18 (.app 9 1 16 (.t 13) (.t 17)),
 Qo 19 (.fld (.t 3) 0),
 ⟨none,.st (.t 19) (.c (.d (.int .i64 8))) 1,none⟩,
 Qo 20 (.fld (.t 3) 3),
 ⟨none,.st (.t 20) (.t 18) 1,none⟩] [0,2,3])))
 (.reg [Qm 21 0,
 Qo 22 (.call 172 [(.t 21)]),
 Qo 23 (.fld (.t 3) 0),
 ⟨none,.st (.t 23) (.c (.d (.int .i64 7))) 1,none⟩,
 Qo 24 (.fld (.t 3) 1),
 ⟨none,.st (.t 24) (.t 22) 1,none⟩] [0,2,3])))
 (.seq (.reg [Qm 25 0,
 Qo 26 (.call 127 [(.t 25),(.c (.d (.str [61])))])] [0,2,3])
 (.seq (.reg [Qm 27 0,
 Qo 28 (.call 131 [(.t 27)]),
 Qo 5 (.al [(.d (.int .i64 0)),(.d (.str [])),(.d (.int .i64 0)),.AX,.AX,.AX] false),
 ⟨none,.st (.t 5) (.t 28) 6,none⟩] [0,2,3,5])
 (.seq (.reg [Qm 29 0,
 Qo 30 (.call 127 [(.t 29),(.c (.d (.str [105,110])))])] [0,2,3,5])
 (.seq (.reg [Qo 31 (.ldl (.t 5) (some 6)),
 Qm 32 0,
 Qo 33 (.call 131 [(.t 32)]),
 Qo 34 (.bsl 6 2 [(.d (.int .i64 0)),(.d (.str [])),(.d (.int .i64 0)),.AX,.AX,.AX,(.d (.int .i64 0)),(.d (.str [])),(.d (.int .i64 0)),.AX,.AX,.AX] [(0,6,(.t 31)),(6,6,(.t 33))]),
 Qo 35 (.fld (.t 3) 4),
 ⟨none,.st (.t 35) (.t 34) 1,none⟩] [2,3])
 (.seq (.reg [Qo 36 (.ldl (.t 3) (some 6)),
 ⟨none,.st (.t 2) (.t 36) 6,none⟩] [2])
 .ret))))))))
noncomputable def E9:Cx:=⟨Tryz.prog,169,Tryz.f169,37,[13,300031,300036],[],[.c 2 (some 6)]⟩
theorem Hb:Good E9:=⟨Tryz.func169,by kernel_rfl⟩
theorem SJ:E9.rs=[.c 2 (some 6)]:=rfl
theorem Su (hl:args.length≤37) (h:Run E9 K [.code Ln] (Aq args) E σ):AQ Tryz.prog 169 args σ K:=
 AW (cx:=E9) (code:=Tryz.f169.body.getD .skip) Hb (by kernel_rfl) Tryz.ntmps169 hl (AZ E9 _ (Av Ln) _ [] (by kernel_rfl)) h
def NT:C:=(.seq (.seq (.reg [Qm 11 0,
 Qm 12 1,
 Qo 13 (.call 65 [(.t 11),(.t 12)])] [0,1,2,7,13])
 (.cond (.t 13) .skip
 (.exit 0)))
 (.block 1 (.reg [Qm 14 7,
 Qm 15 2,
 Qo 16 (.EU (.t 15) []),
 Qo 17 (.bsl 8 1 [(.d (.str [])),.AX,(.d (.int .i64 0)),(.d (.str [])),(.d (.int .i64 0)),.AX,.AX,.AX] [(0,8,(.t 16))]),
 Qo 18 (.app 112 8 144 (.t 14) (.t 17)),
 Qm 7 18] [0,1,2,7])))
def Ir:C:=(.seq (.reg [Qo 6 (.mv (.c .AX))] [0,1,2])
 (.seq (.reg [Qm 8 2,
 Qo 9 (.EU (.t 8) []),
 Qo 10 (.M5 112 8 1 [(.d (.str [])),.AX,(.d (.int .i64 0)),(.d (.str [])),(.d (.int .i64 0)),.AX,.AX,.AX] [(0,8,(.t 9))]),
 Qm 7 10] [0,1,2,7])
 (.seq (.block 0 (.loop NT))
 (.seq (.reg [Qm 19 7,
 Qm 6 19] [6])
 .ret))))
noncomputable def DO:Cx:=⟨Tryz.prog,170,Tryz.f170,20,[10],[],[.t 6]⟩
theorem JG:Good DO:=⟨Tryz.func170,by kernel_rfl⟩
theorem Oo:DO.rs=[.t 6]:=rfl
theorem Pc (hl:args.length≤20) (h:Run DO K [.code Ir] (Aq args) E σ):AQ Tryz.prog 170 args σ K:=
 AW (cx:=DO) (code:=Tryz.f170.body.getD .skip) JG (by kernel_rfl) Tryz.ntmps170 hl (AZ DO _ (Av Ir) _ [] (by kernel_rfl)) h
def Lj:C:=(.seq (.reg [Qo 2 (.al [(.d (.str [])),.AX,(.d (.int .i64 0)),(.d (.str [])),(.d (.int .i64 0)),.AX,.AX,.AX] false)] [0,2])
 (.seq (.reg [Qm 4 0,
 Qo 5 (.call 124 [(.t 4),(.c (.d (.int .i64 2)))]),
 Qo 6 (.bld [(.d (.str [])),.AX,(.d (.int .i64 0)),(.d (.str [])),(.d (.int .i64 0)),.AX,.AX,.AX] [(0,1,(.t 5))]),
 Qo 3 (.al [(.d (.str [])),.AX,(.d (.int .i64 0)),(.d (.str [])),(.d (.int .i64 0)),.AX,.AX,.AX] false),
 ⟨none,.st (.t 3) (.t 6) 8,none⟩] [0,2,3])
 (.seq (.reg [Qm 7 0,
 Qm 8 0,
 Qo 9 (.mkf 172 [(.t 8)] []),
 Qo 10 (.call 125 [(.t 7),(.t 9)]),
 Qo 11 (.fld (.t 3) 1),
 ⟨none,.st (.t 11) (.t 10) 1,none⟩] [0,2,3])
 (.seq (.reg [Qm 12 0,
 Qo 13 (.call 127 [(.t 12),(.c (.d (.str [45,62])))])] [0,2,3])
 (.seq (.reg [Qm 14 0,
 Qo 15 (.call 131 [(.t 14)]),
 Qo 16 (.fld (.t 3) 2),
 ⟨none,.st (.t 16) (.t 15) 6,none⟩] [2,3])
 (.seq (.reg [Qo 17 (.ldl (.t 3) (some 8)),
 ⟨none,.st (.t 2) (.t 17) 8,none⟩] [2])
 .ret))))))
noncomputable def E6:Cx:=⟨Tryz.prog,171,Tryz.f171,18,[300017],[],[.c 2 (some 8)]⟩
theorem Lq:Good E6:=⟨Tryz.func171,by kernel_rfl⟩
theorem SF:E6.rs=[.c 2 (some 8)]:=rfl
theorem Sp (hl:args.length≤18) (h:Run E6 K [.code Lj] (Aq args) E σ):AQ Tryz.prog 171 args σ K:=
 AW (cx:=E6) (code:=Tryz.f171.body.getD .skip) Lq (by kernel_rfl) Tryz.ntmps171 hl (AZ E6 _ (Av Lj) _ [] (by kernel_rfl)) h
def K8:C:=(.seq (.reg [Qo 2 (.mv (.c (.d (.str []))))] [0])
 (.seq (.seq (.reg [Qm 3 0,
 Qo 4 (.call 65 [(.t 3),(.c (.d (.str [95])))])] [0,4])
 (.cond (.t 4) (.seq (.reg [Qo 2 (.mv (.c (.d (.str []))))] [2])
 .ret)
 .skip))
 (.seq (.reg [Qm 5 0,
 Qo 6 (.call 126 [(.t 5)]),
 Qm 2 6] [2])
 .ret)))
noncomputable def ED:Cx:=⟨Tryz.prog,172,Tryz.f172,7,[],[],[.t 2]⟩
theorem HC:Good ED:=⟨Tryz.func172,by kernel_rfl⟩
theorem Qt:ED.rs=[.t 2]:=rfl
theorem Ra (hl:args.length≤7) (h:Run ED K [.code K8] (Aq args) E σ):AQ Tryz.prog 172 args σ K:=
 AW (cx:=ED) (code:=Tryz.f172.body.getD .skip) HC (by kernel_rfl) Tryz.ntmps172 hl (AZ ED _ (Av K8) _ [] (by kernel_rfl)) h
def K9:C:=(.seq (.reg [Qo 2 (.al [(.d (.int .i64 0)),(.d (.str [])),(.d (.int .i64 0)),.AX,.AX,.AX] false)] [0,2])
 (.seq (.reg [Qm 5 0,
 Qo 6 (.call 186 [(.t 5)]),
 Qo 3 (.al [(.d (.int .i64 0)),(.d (.str [])),(.d (.int .i64 0)),.AX,.AX,.AX] false),
 ⟨none,.st (.t 3) (.t 6) 6,none⟩] [0,2,3])
 (.seq (.seq (.reg [Qm 7 0,
 Qo 8 (.call 187 [(.t 7),(.c (.d (.int .i64 1)))]),
 Qm 4 8] [0,2,3,4])
 (.seq (.reg [Qm 9 4,
 Qo 10 (.bin .neq (.t 9) (.c (.d (.int .i64 0))))] [0,2,3,4,10])
 (.cond (.t 10) (.seq (.reg [Qm 11 4,
 Qo 12 (.ldl (.t 3) (some 6)),
 Qm 13 0,
 Qo 14 (.call 186 [(.t 13)]),
 Qo 15 (.call 188 [(.t 11),(.t 12),(.t 14)]),
 ⟨none,.st (.t 2) (.t 15) 6,none⟩] [2])
 .ret)
 .skip)))
 (.seq (.reg [Qo 16 (.ldl (.t 3) (some 6)),
 ⟨none,.st (.t 2) (.t 16) 6,none⟩] [2])
 .ret))))
noncomputable def EE:Cx:=⟨Tryz.prog,173,Tryz.f173,17,[300012,300016],[],[.c 2 (some 6)]⟩
theorem HD:Good EE:=⟨Tryz.func173,by kernel_rfl⟩
theorem Qu:EE.rs=[.c 2 (some 6)]:=rfl
theorem Rb (hl:args.length≤17) (h:Run EE K [.code K9] (Aq args) E σ):AQ Tryz.prog 173 args σ K:=
 AW (cx:=EE) (code:=Tryz.f173.body.getD .skip) HD (by kernel_rfl) Tryz.ntmps173 hl (AZ EE _ (Av K9) _ [] (by kernel_rfl)) h
def Ns:C:=(.seq (.seq (.reg [Qm 11 0,
 Qm 12 1,
 Qo 13 (.call 65 [(.t 11),(.t 12)])] [0,1,2,7,13])
 (.cond (.t 13) .skip
 (.exit 0)))
 (.block 1 (.reg [Qm 14 7,
 Qm 15 2,
 Qo 16 (.EU (.t 15) []),
 Qo 17 (.bsl 1 1 [(.d (.str []))] [(0,1,(.t 16))]),
 Qo 18 (.app 9 1 16 (.t 14) (.t 17)),
 Qm 7 18] [0,1,2,7])))
def Jc:C:=(.seq (.reg [Qo 6 (.mv (.c .AX))] [0,1,2])
 (.seq (.reg [Qm 8 2,
 Qo 9 (.EU (.t 8) []),
 Qo 10 (.M5 9 1 1 [(.d (.str []))] [(0,1,(.t 9))]),
 Qm 7 10] [0,1,2,7])
 (.seq (.block 0 (.loop Ns))
 (.seq (.reg [Qm 19 7,
 Qm 6 19] [6])
 .ret))))
noncomputable def D8:Cx:=⟨Tryz.prog,182,Tryz.f182,20,[10],[],[.t 6]⟩
theorem Jn:Good D8:=⟨Tryz.func182,by kernel_rfl⟩
theorem Pz:D8.rs=[.t 6]:=rfl
theorem Qc (hl:args.length≤20) (h:Run D8 K [.code Jc] (Aq args) E σ):AQ Tryz.prog 182 args σ K:=
 AW (cx:=D8) (code:=Tryz.f182.body.getD .skip) Jn (by kernel_rfl) Tryz.ntmps182 hl (AZ D8 _ (Av Jc) _ [] (by kernel_rfl)) h
def GN:C:=(.seq (.reg [Qo 4 (.mv (.c .AX))] [0,1])
 (.seq (.reg [Qm 6 0,
 Qm 7 1,
 Qo 8 (.call 196 [(.t 6),(.c (.d (.str [44]))),(.t 7)]),
 Qm 5 8] [0,5])
 (.seq (.reg [Qm 9 0,
 Qo 10 (.call 127 [(.t 9),(.c (.d (.str [41])))])] [5])
 (.seq (.reg [Qm 11 5,
 Qm 4 11] [4])
 .ret))))
noncomputable def Bz:Cx:=⟨Tryz.prog,183,Tryz.f183,12,[],[],[.t 4]⟩
theorem GR:Good Bz:=⟨Tryz.func183,by kernel_rfl⟩
theorem LJ:Bz.rs=[.t 4]:=rfl
theorem L4 (hl:args.length≤12) (h:Run Bz K [.code GN] (Aq args) E σ):AQ Tryz.prog 183 args σ K:=
 AW (cx:=Bz) (code:=Tryz.f183.body.getD .skip) GR (by kernel_rfl) Tryz.ntmps183 hl (AZ Bz _ (Av GN) _ [] (by kernel_rfl)) h
def IV:C:=(.seq (.reg [Qo 4 (.al [(.d (.int .i64 0)),(.d (.str [])),.AX] false)] [0,1,4])
 (.seq (.reg [Qm 6 0,
 Qo 7 (.call 127 [(.t 6),(.c (.d (.str [40])))])] [0,1,4])
 (.seq (.reg [Qm 8 0,
 Qo 9 (.call 168 [(.t 8)]),
 Qo 5 (.al [(.d (.int .i64 0)),(.d (.str [])),.AX] false),
 ⟨none,.st (.t 5) (.t 9) 3,none⟩] [0,1,4,5])
 (.seq (.reg [Qm 10 0,
 Qo 11 (.call 127 [(.t 10),(.c (.d (.str [41])))])] [1,4,5])
 (.seq (.reg [Qm 12 1,
 Qo 13 (.ldl (.t 5) (some 3)),
 Qo 14 (.bsl 3 1 [(.d (.int .i64 0)),(.d (.str [])),.AX] [(0,3,(.t 13))]),
 Qo 15 (.bld [(.d (.int .i64 0)),(.d (.str [])),.AX] [(0,1,(.t 12)),(2,1,(.t 14))]),
 ⟨none,.st (.t 4) (.t 15) 3,none⟩] [4])
 .ret)))))
noncomputable def DA:Cx:=⟨Tryz.prog,184,Tryz.f184,16,[300013],[],[.c 4 (some 3)]⟩
theorem I2:Good DA:=⟨Tryz.func184,by kernel_rfl⟩
theorem OH:DA.rs=[.c 4 (some 3)]:=rfl
theorem O5 (hl:args.length≤16) (h:Run DA K [.code IV] (Aq args) E σ):AQ Tryz.prog 184 args σ K:=
 AW (cx:=DA) (code:=Tryz.f184.body.getD .skip) I2 (by kernel_rfl) Tryz.ntmps184 hl (AZ DA _ (Av IV) _ [] (by kernel_rfl)) h
def GM:C:=(.seq (.reg [Qo 4 (.mv (.c .AX))] [0,1])
 (.seq (.seq (.reg [Qm 5 0,
 Qo 6 (.call 65 [(.t 5),(.c (.d (.str [41])))])] [0,1,6])
 (.cond (.t 6) (.seq (.reg [Qo 4 (.mv (.c .AX))] [4])
 .ret)
 .skip))
 (.seq (.reg [Qm 7 0,
 Qm 8 1,
 Qo 9 (.call 183 [(.t 7),(.t 8)]),
 Qm 4 9] [4])
 .ret)))
noncomputable def By:Cx:=⟨Tryz.prog,185,Tryz.f185,10,[],[],[.t 4]⟩
theorem EX:Good By:=⟨Tryz.func185,by kernel_rfl⟩
theorem LI:By.rs=[.t 4]:=rfl
theorem L3 (hl:args.length≤10) (h:Run By K [.code GM] (Aq args) E σ):AQ Tryz.prog 185 args σ K:=
 AW (cx:=By) (code:=Tryz.f185.body.getD .skip) EX (by kernel_rfl) Tryz.ntmps185 hl (AZ By _ (Av GM) _ [] (by kernel_rfl)) h
def PW:C:=(.seq (.seq (.reg [Qm 9 4,
 Qo 10 (.bin .neq (.t 9) (.c (.d (.int .i64 0))))] [0,2,3,4,10])
 (.cond (.t 10) .skip
 (.exit 0)))
 (.seq (.block 1 (.reg [Qm 13 4,
 Qo 14 (.ldl (.t 3) (some 6)),
 Qm 15 0,
 Qo 16 (.call 197 [(.t 15)]),
 Qo 17 (.call 188 [(.t 13),(.t 14),(.t 16)]),
 ⟨none,.st (.t 3) (.t 17) 6,none⟩] [0,2,3]))
 (.reg [Qm 11 0,
 Qo 12 (.call 187 [(.t 11),(.c (.d (.int .i64 2)))]),
 Qm 4 12] [0,2,3,4])))
def Lo:C:=(.seq (.reg [Qo 2 (.al [(.d (.int .i64 0)),(.d (.str [])),(.d (.int .i64 0)),.AX,.AX,.AX] false)] [0,2])
 (.seq (.reg [Qm 5 0,
 Qo 6 (.call 197 [(.t 5)]),
 Qo 3 (.al [(.d (.int .i64 0)),(.d (.str [])),(.d (.int .i64 0)),.AX,.AX,.AX] false),
 ⟨none,.st (.t 3) (.t 6) 6,none⟩] [0,2,3])
 (.seq (.seq (.reg [Qm 7 0,
 Qo 8 (.call 187 [(.t 7),(.c (.d (.int .i64 2)))]),
 Qm 4 8] [0,2,3,4])
 (.block 0 (.loop PW)))
 (.seq (.reg [Qo 18 (.ldl (.t 3) (some 6)),
 ⟨none,.st (.t 2) (.t 18) 6,none⟩] [2])
 .ret))))
noncomputable def Ea:Cx:=⟨Tryz.prog,186,Tryz.f186,19,[300014,300018],[],[.c 2 (some 6)]⟩
theorem Lv:Good Ea:=⟨Tryz.func186,by kernel_rfl⟩
theorem SK:Ea.rs=[.c 2 (some 6)]:=rfl
theorem Sv (hl:args.length≤19) (h:Run Ea K [.code Lo] (Aq args) E σ):AQ Tryz.prog 186 args σ K:=
 AW (cx:=Ea) (code:=Tryz.f186.body.getD .skip) Lv (by kernel_rfl) Tryz.ntmps186 hl (AZ Ea _ (Av Lo) _ [] (by kernel_rfl)) h
def MD:C:=(.seq (.seq (.reg [Qm 6 5,
 Qo 7 (.bin .leq (.t 6) (.c (.d (.int .i64 8))))] [0,1,5,7])
 (.cond (.t 7) .skip
 (.exit 0)))
 (.seq (.block 1 (.seq (.reg [Qm 10 5,
 Qo 11 (.call 138 [(.t 10)]),
 Qm 12 1,
 Qo 13 (.bin .eql (.t 11) (.t 12)),
 Qm 14 13,
 ⟨some 15,.mv (.t 0),some (14,true)⟩,
 ⟨some 16,.mv (.t 5),some (14,true)⟩,
 ⟨some 17,.call 91 [(.t 16)],some (14,true)⟩,
 ⟨some 18,.call 65 [(.t 15),(.t 17)],some (14,true)⟩,
 Qo 19 (.pick (.t 14) (.t 18) (.c (.d (.bool false))))] [0,1,5,19])
 (.cond (.t 19) (.seq (.reg [Qm 20 5,
 Qm 4 20] [4])
 .ret)
 .skip)))
 (.reg [Qm 8 5,
 Qo 9 (.bin .add (.t 8) (.c (.d (.int .i64 1)))),
 Qm 5 9] [0,1,5])))
def Hm:C:=(.seq (.reg [Qo 4 (.mv (.c (.d (.int .i64 0))))] [0,1])
 (.seq (.seq (.reg [Qo 5 (.mv (.c (.d (.int .i64 1))))] [0,1,5])
 (.block 0 (.loop MD)))
 (.seq (.reg [Qo 4 (.mv (.c (.d (.int .i64 0))))] [4])
 .ret)))
noncomputable def Cs:Cx:=⟨Tryz.prog,187,Tryz.f187,21,[],[],[.t 4]⟩
theorem FW:Good Cs:=⟨Tryz.func187,by kernel_rfl⟩
theorem N5:Cs.rs=[.t 4]:=rfl
theorem OA (hl:args.length≤21) (h:Run Cs K [.code Hm] (Aq args) E σ):AQ Tryz.prog 187 args σ K:=
 AW (cx:=Cs) (code:=Tryz.f187.body.getD .skip) FW (by kernel_rfl) Tryz.ntmps187 hl (AZ Cs _ (Av Hm) _ [] (by kernel_rfl)) h
def QQ:C:=(.seq (.reg [Qo 4 (.box (.t 1) false),
 Qo 5 (.box (.t 2) false),
 Qo 6 (.al [(.d (.int .i64 0)),(.d (.str [])),(.d (.int .i64 0)),.AX,.AX,.AX] false)] [0,4,5,6])
 (.seq (.reg [Qm 7 0,
 Qo 8 (.ldl (.t 4) (some 6)),
 Qo 9 (.ldl (.t 5) (some 6)),
 Qo 10 (.bsl 6 2 [(.d (.int .i64 0)),(.d (.str [])),(.d (.int .i64 0)),.AX,.AX,.AX,(.d (.int .i64 0)),(.d (.str [])),(.d (.int .i64 0)),.AX,.AX,.AX] [(0,6,(.t 8)),(6,6,(.t 9))]),
 Qo 11 (.bld [(.d (.int .i64 0)),(.d (.str [])),(.d (.int .i64 0)),.AX,.AX,.AX] [(0,1,(.c (.d (.int .i64 13)))),(2,1,(.t 7)),(4,1,(.t 10))]),
 ⟨none,.st (.t 6) (.t 11) 6,none⟩] [6])
 .ret))
noncomputable def GX:Cx:=⟨Tryz.prog,188,Tryz.f188,12,[300008,300009],[],[.c 6 (some 6)]⟩
theorem QW:Good GX:=⟨Tryz.func188,by kernel_rfl⟩
theorem Vi:GX.rs=[.c 6 (some 6)]:=rfl
theorem W4 (hl:args.length≤12) (h:Run GX K [.code QQ] (Aq args) E σ):AQ Tryz.prog 188 args σ K:=
 AW (cx:=GX) (code:=Tryz.f188.body.getD .skip) QW (by kernel_rfl) Tryz.ntmps188 hl (AZ GX _ (Av QQ) _ [] (by kernel_rfl)) h
def Jy:C:=(.seq (.seq (.reg [Qm 11 0,
 Qm 12 1,
 Qo 13 (.call 65 [(.t 11),(.t 12)])] [0,1,2,7,13])
 (.cond (.t 13) .skip
 (.exit 0)))
 (.block 1 (.reg [Qm 14 7,
 Qm 15 2,
 Qo 16 (.EU (.t 15) []),
 Qo 17 (.bsl 3 1 [(.d (.int .i64 0)),(.d (.str [])),.AX] [(0,3,(.t 16))]),
 Qo 18 (.app 75 3 48 (.t 14) (.t 17)),
 Qm 7 18] [0,1,2,7])))
def Gb:C:=(.seq (.reg [Qo 6 (.mv (.c .AX))] [0,1,2])
 (.seq (.reg [Qm 8 2,
 Qo 9 (.EU (.t 8) []),
 Qo 10 (.M5 75 3 1 [(.d (.int .i64 0)),(.d (.str [])),.AX] [(0,3,(.t 9))]),
 Qm 7 10] [0,1,2,7])
 (.seq (.block 0 (.loop Jy))
 (.seq (.reg [Qm 19 7,
 Qm 6 19] [6])
 .ret))))
noncomputable def CM:Cx:=⟨Tryz.prog,196,Tryz.f196,20,[10],[],[.t 6]⟩
theorem Ge:Good CM:=⟨Tryz.func196,by kernel_rfl⟩
theorem Lc:CM.rs=[.t 6]:=rfl
theorem MJ (hl:args.length≤20) (h:Run CM K [.code Gb] (Aq args) E σ):AQ Tryz.prog 196 args σ K:=
 AW (cx:=CM) (code:=Tryz.f196.body.getD .skip) Ge (by kernel_rfl) Tryz.ntmps196 hl (AZ CM _ (Av Gb) _ [] (by kernel_rfl)) h
def OW:C:=(.seq (.seq (.reg [Qm 9 4,
 Qo 10 (.bin .neq (.t 9) (.c (.d (.int .i64 0))))] [0,2,3,4,10])
 (.cond (.t 10) .skip
 (.exit 0)))
 (.seq (.block 1 (.reg [Qm 13 4,
 Qo 14 (.ldl (.t 3) (some 6)),
 Qm 15 0,
 Qo 16 (.call 204 [(.t 15)]),
 Qo 17 (.call 188 [(.t 13),(.t 14),(.t 16)]),
 ⟨none,.st (.t 3) (.t 17) 6,none⟩] [0,2,3]))
 (.reg [Qm 11 0,
 Qo 12 (.call 187 [(.t 11),(.c (.d (.int .i64 3)))]),
 Qm 4 12] [0,2,3,4])))
def Kg:C:=(.seq (.reg [Qo 2 (.al [(.d (.int .i64 0)),(.d (.str [])),(.d (.int .i64 0)),.AX,.AX,.AX] false)] [0,2])
 (.seq (.reg [Qm 5 0,
 Qo 6 (.call 204 [(.t 5)]),
 Qo 3 (.al [(.d (.int .i64 0)),(.d (.str [])),(.d (.int .i64 0)),.AX,.AX,.AX] false),
 ⟨none,.st (.t 3) (.t 6) 6,none⟩] [0,2,3])
 (.seq (.seq (.reg [Qm 7 0,
 Qo 8 (.call 187 [(.t 7),(.c (.d (.int .i64 3)))]),
 Qm 4 8] [0,2,3,4])
 (.block 0 (.loop OW)))
 (.seq (.reg [Qo 18 (.ldl (.t 3) (some 6)),
 ⟨none,.st (.t 2) (.t 18) 6,none⟩] [2])
 .ret))))
noncomputable def EM:Cx:=⟨Tryz.prog,197,Tryz.f197,19,[300014,300018],[],[.c 2 (some 6)]⟩
theorem Kw:Good EM:=⟨Tryz.func197,by kernel_rfl⟩
theorem RB:EM.rs=[.c 2 (some 6)]:=rfl
theorem Rj (hl:args.length≤19) (h:Run EM K [.code Kg] (Aq args) E σ):AQ Tryz.prog 197 args σ K:=
 AW (cx:=EM) (code:=Tryz.f197.body.getD .skip) Kw (by kernel_rfl) Tryz.ntmps197 hl (AZ EM _ (Av Kg) _ [] (by kernel_rfl)) h
def Iy:C:=(.seq (.seq (.reg [Qm 6 0,
 Qo 7 (.call 65 [(.t 6),(.c (.d (.str [40])))])] [0,2,3,7])
 (.cond (.t 7) .skip
 (.exit 0)))
 (.block 1 (.SD (.one (Qo 8 (.ldl (.t 3) (some 6)))
 (.one (Qm 10 0)
 (.one (Qm 11 0)
 (.one (Qo 12 (.mkf 131 [(.t 11)] []))
 (.alt (Qo 9 (.M5 44 6 1 [(.d (.int .i64 0)),(.d (.str [])),(.d (.int .i64 0)),.AX,.AX,.AX] [(0,6,(.t 8))]))
 (.one (Qo 13 (.call 208 [(.t 10),(.t 12)]))
 (.one (Qo 14 (.app 44 6 104 (.t 9) (.t 13)))
 (.one (Qo 15 (.bld [(.d (.int .i64 0)),(.d (.str [])),(.d (.int .i64 0)),.AX,.AX,.AX] [(0,1,(.c (.d (.int .i64 12)))),(4,1,(.t 14))]))
 (.one ⟨none,.st (.t 3) (.t 15) 6,none⟩
 .done))))
 (.alt (Qo 13 (.call 208 [(.t 10),(.t 12)]))
 (.one (Qo 9 (.M5 44 6 1 [(.d (.int .i64 0)),(.d (.str [])),(.d (.int .i64 0)),.AX,.AX,.AX] [(0,6,(.t 8))]))
 (.one (Qo 14 (.app 44 6 104 (.t 9) (.t 13)))
 (.one (Qo 15 (.bld [(.d (.int .i64 0)),(.d (.str [])),(.d (.int .i64 0)),.AX,.AX,.AX] [(0,1,(.c (.d (.int .i64 12)))),(4,1,(.t 14))]))
 (.one ⟨none,.st (.t 3) (.t 15) 6,none⟩
 .done))))
 .done)))))) [0,2,3])))
def Sm:C:=(.seq (.reg [Qo 2 (.al [(.d (.int .i64 0)),(.d (.str [])),(.d (.int .i64 0)),.AX,.AX,.AX] false)] [0,2])
 (.seq (.reg [Qm 4 0,
 Qo 5 (.call 207 [(.t 4)]),
 Qo 3 (.al [(.d (.int .i64 0)),(.d (.str [])),(.d (.int .i64 0)),.AX,.AX,.AX] false),
 ⟨none,.st (.t 3) (.t 5) 6,none⟩] [0,2,3])
 (.seq (.block 0 (.loop Iy))
 (.seq (.reg [Qo 16 (.ldl (.t 3) (some 6)),
 ⟨none,.st (.t 2) (.t 16) 6,none⟩] [2])
 .ret))))
def TJ:List (List Nat×PT):=[([0,2],.done),([0,2,3],.done),([0,2,3,7],.done),([0,2,3],(.one 0 (.one 2 (.one 3 (.one 4 (.alt 1 (.one 5 (.one 6 (.one 7 (.one 8 .done)))) (.alt 5 (.one 1 (.one 6 (.one 7 (.one 8 .done)))) .done))))))),([2],.done)]
noncomputable def D0:Cx:=⟨Tryz.prog,204,Tryz.f204,17,[9,300008,300016],[],[.c 2 (some 6)]⟩
theorem Lr:Good D0:=⟨Tryz.func204,by kernel_rfl⟩
theorem SG:D0.rs=[.c 2 (some 6)]:=rfl
theorem Sq (hl:args.length≤17) (h:Run D0 K [.code Sm] (Aq args) E σ):AQ Tryz.prog 204 args σ K:=
 AW (cx:=D0) (code:=Tryz.f204.body.getD .skip) Lr (by kernel_rfl) Tryz.ntmps204 hl (AZ D0 _ TJ _ [] (by kernel_rfl)) h
def OV:C:=(.seq (.seq (.reg [Qm 68 5,
 Qo 69 (.bin .leq (.t 68) (.c (.d (.int .i64 7))))] [0,2,5,69])
 (.cond (.t 69) .skip
 (.exit 1)))
 (.seq (.block 2 (.seq (.reg [Qm 73 5,
 Qo 74 (.call 147 [(.t 73)]),
 Qm 72 74,
 Qo 75 (.ext (.t 72) 0),
 Qo 76 (.ext (.t 72) 1),
 Qm 6 75,
 Qm 7 76] [0,2,5,6,7])
 (.seq (.reg [Qm 77 0,
 Qm 78 6,
 Qo 79 (.call 65 [(.t 77),(.t 78)])] [0,2,5,7,79])
 (.cond (.t 79) (.seq (.reg [Qm 80 5,
 Qm 81 0,
 Qm 82 7,
 Qo 83 (.call 213 [(.t 81),(.t 82)]),
 Qo 84 (.bld [(.d (.int .i64 0)),(.d (.str [])),(.d (.int .i64 0)),.AX,.AX,.AX] [(0,1,(.c (.d (.int .i64 14)))),(2,1,(.t 80)),(4,1,(.t 83))]),
 ⟨none,.st (.t 2) (.t 84) 6,none⟩] [2])
 .ret)
 .skip))))
 (.reg [Qm 70 5,
 Qo 71 (.bin .add (.t 70) (.c (.d (.int .i64 1)))),
 Qm 5 71] [0,2,5])))
def Kf:C:=(.seq (.reg [Qo 2 (.al [(.d (.int .i64 0)),(.d (.str [])),(.d (.int .i64 0)),.AX,.AX,.AX] false)] [0,2])
 (.seq (.seq (.reg [Qm 8 0,
 Qo 9 (.call 64 [(.t 8)]),
 Qo 3 (.al [(.d (.int .i64 0)),(.d (.str [])),(.d (.int .i64 0))] false),
 ⟨none,.st (.t 3) (.t 9) 3,none⟩] [0,2,3])
 (.block 0 (.seq (.reg [Qo 11 (.fld (.t 3) 0),
 Qo 12 (.ldl (.t 11) none),
 Qo 13 (.bin .eql (.t 12) (.c (.d (.int .i64 3)))),
 Qm 10 13] [0,2,3,10])
 (.cond (.t 10) (.seq (.reg [Qm 14 0,
 Qo 15 (.call 209 [(.t 14)]),
 Qo 16 (.bld [(.d (.int .i64 0)),(.d (.str [])),(.d (.int .i64 0)),.AX,.AX,.AX] [(0,1,(.c (.d (.int .i64 3)))),(2,1,(.t 15))]),
 ⟨none,.st (.t 2) (.t 16) 6,none⟩] [2])
 .ret)
 (.seq (.reg [Qo 18 (.fld (.t 3) 0),
 Qo 19 (.ldl (.t 18) none),
 Qo 20 (.bin .eql (.t 19) (.c (.d (.int .i64 1)))),
 Qm 17 20] [0,2,3,17])
 (.cond (.t 17) (.seq (.reg [Qm 21 0,
 Qo 22 (.call 126 [(.t 21)]),
 Qo 23 (.bld [(.d (.int .i64 0)),(.d (.str [])),(.d (.int .i64 0)),.AX,.AX,.AX] [(0,1,(.c (.d (.int .i64 4)))),(1,1,(.t 22))]),
 ⟨none,.st (.t 2) (.t 23) 6,none⟩] [2])
 .ret)
 (.seq (.reg [Qo 25 (.fld (.t 3) 0),
 Qo 26 (.ldl (.t 25) none),
 Qo 27 (.bin .eql (.t 26) (.c (.d (.int .i64 2)))),
 Qm 24 27] [0,2,24])
 (.cond (.t 24) (.seq (.reg [Qm 28 0,
 Qo 29 (.call 124 [(.t 28),(.c (.d (.int .i64 2)))]),
 Qo 30 (.bld [(.d (.int .i64 0)),(.d (.str [])),(.d (.int .i64 0)),.AX,.AX,.AX] [(0,1,(.c (.d (.int .i64 6)))),(1,1,(.t 29))]),
 Qo 4 (.al [(.d (.int .i64 0)),(.d (.str [])),(.d (.int .i64 0)),.AX,.AX,.AX] false),
 ⟨none,.st (.t 4) (.t 30) 6,none⟩] [0,2,4])
 (.seq (.reg [Qm 31 0,
 Qm 32 0,
 Qo 33 (.mkf 131 [(.t 32)] []),
 Qo 34 (.call 210 [(.t 31),(.t 33)]),
 Qo 35 (.fld (.t 4) 4),
 ⟨none,.st (.t 35) (.t 34) 1,none⟩] [2,4])
 (.seq (.reg [Qo 36 (.ldl (.t 4) (some 6)),
 ⟨none,.st (.t 2) (.t 36) 6,none⟩] [2])
 .ret)))
 (.seq (.reg [Qm 38 0,
 Qo 39 (.call 65 [(.t 38),(.c (.d (.str [45])))]),
 Qm 37 39] [0,2,37])
 (.cond (.t 37) (.seq (.reg [Qm 40 0,
 Qo 41 (.call 209 [(.t 40)]),
 Qo 42 (.un .neg (.t 41)),
 Qo 43 (.bld [(.d (.int .i64 0)),(.d (.str [])),(.d (.int .i64 0)),.AX,.AX,.AX] [(0,1,(.c (.d (.int .i64 3)))),(2,1,(.t 42))]),
 ⟨none,.st (.t 2) (.t 43) 6,none⟩] [2])
 .ret)
 (.seq (.reg [Qm 45 0,
 Qo 46 (.call 65 [(.t 45),(.c (.d (.str [116,114,117,101])))]),
 Qm 44 46] [0,2,44])
 (.cond (.t 44) (.seq (.reg [Qo 47 (.bld [(.d (.int .i64 0)),(.d (.str [])),(.d (.int .i64 0)),.AX,.AX,.AX] [(0,1,(.c (.d (.int .i64 2)))),(2,1,(.c (.d (.int .i64 1))))]),
 ⟨none,.st (.t 2) (.t 47) 6,none⟩] [2])
 .ret)
 (.seq (.reg [Qm 49 0,
 Qo 50 (.call 65 [(.t 49),(.c (.d (.str [102,97,108,115,101])))]),
 Qm 48 50] [0,2,48])
 (.cond (.t 48) (.seq (.reg [Qo 51 (.bld [(.d (.int .i64 0)),(.d (.str [])),(.d (.int .i64 0)),.AX,.AX,.AX] [(0,1,(.c (.d (.int .i64 2))))]),
 ⟨none,.st (.t 2) (.t 51) 6,none⟩] [2])
 .ret)
 (.seq (.reg [Qm 53 0,
 Qo 54 (.call 65 [(.t 53),(.c (.d (.str [40])))]),
 Qm 52 54] [0,2,52])
 (.cond (.t 52) (.seq (.reg [Qm 55 0,
 Qo 56 (.call 211 [(.t 55)]),
 ⟨none,.st (.t 2) (.t 56) 6,none⟩] [2])
 .ret)
 (.seq (.reg [Qm 58 0,
 Qo 59 (.call 65 [(.t 58),(.c (.d (.str [116,105,99,107])))]),
 Qm 57 59] [0,2,57])
 (.cond (.t 57) (.seq (.reg [Qm 60 0,
 Qo 61 (.call 212 [(.t 60)]),
 ⟨none,.st (.t 2) (.t 61) 6,none⟩] [2])
 .ret)
 (.seq (.reg [Qm 63 0,
 Qo 64 (.call 65 [(.t 63),(.c (.d (.str [114,97,105,115,101])))]),
 Qm 62 64] [0,2,62])
 (.cond (.t 62) (.seq (.reg [Qm 65 0,
 Qo 66 (.call 213 [(.t 65),(.c (.d (.int .i64 1)))]),
 Qo 67 (.bld [(.d (.int .i64 0)),(.d (.str [])),(.d (.int .i64 0)),.AX,.AX,.AX] [(0,1,(.c (.d (.int .i64 16)))),(4,1,(.t 66))]),
 ⟨none,.st (.t 2) (.t 67) 6,none⟩] [2])
 .ret)
 .skip))))))))))))))))))))
 (.seq (.seq (.reg [Qo 5 (.mv (.c (.d (.int .i64 1))))] [0,2,5])
 (.block 1 (.loop OV)))
 (.seq (.reg [Qm 85 0,
 Qo 86 (.call 68 [(.t 85)])] [2])
 (.seq (.reg [Qo 87 (.bld [(.d (.int .i64 0)),(.d (.str [])),(.d (.int .i64 0)),.AX,.AX,.AX] []),
 ⟨none,.st (.t 2) (.t 87) 6,none⟩] [2])
 .ret)))))
noncomputable def EL:Cx:=⟨Tryz.prog,207,Tryz.f207,88,[300012,300019,300026,300036],[],[.c 2 (some 6)]⟩
theorem BL:Good EL:=⟨Tryz.func207,by kernel_rfl⟩
theorem RA:EL.rs=[.c 2 (some 6)]:=rfl
theorem Ri (hl:args.length≤88) (h:Run EL K [.code Kf] (Aq args) E σ):AQ Tryz.prog 207 args σ K:=
 AW (cx:=EL) (code:=Tryz.f207.body.getD .skip) BL (by kernel_rfl) Tryz.ntmps207 hl (AZ EL _ (Av Kf) _ [] (by kernel_rfl)) h
def Hi:C:=(.seq (.reg [Qo 4 (.mv (.c .AX))] [0,1])
 (.seq (.seq (.reg [Qm 5 0,
 Qo 6 (.call 65 [(.t 5),(.c (.d (.str [41])))])] [0,1,6])
 (.cond (.t 6) (.seq (.reg [Qo 4 (.mv (.c .AX))] [4])
 .ret)
 .skip))
 (.seq (.reg [Qm 7 0,
 Qm 8 1,
 Qo 9 (.call 214 [(.t 7),(.t 8)]),
 Qm 4 9] [4])
 .ret)))
noncomputable def Co:Cx:=⟨Tryz.prog,208,Tryz.f208,10,[],[],[.t 4]⟩
theorem FT:Good Co:=⟨Tryz.func208,by kernel_rfl⟩
theorem N1:Co.rs=[.t 4]:=rfl
theorem Nw (hl:args.length≤10) (h:Run Co K [.code Hi] (Aq args) E σ):AQ Tryz.prog 208 args σ K:=
 AW (cx:=Co) (code:=Tryz.f208.body.getD .skip) FT (by kernel_rfl) Tryz.ntmps208 hl (AZ Co _ (Av Hi) _ [] (by kernel_rfl)) h
def JA:C:=(.seq (.reg [Qo 2 (.mv (.c (.d (.int .i64 0))))] [0])
 (.seq (.reg [Qm 6 0,
 Qo 7 (.call 124 [(.t 6),(.c (.d (.int .i64 3)))]),
 Qo 8 (.call 215 [(.t 7),(.c (.d (.int .i64 10))),(.c (.d (.int .i64 64)))]),
 Qm 5 8,
 Qo 9 (.ext (.t 5) 0),
 Qo 10 (.ext (.t 5) 1),
 Qm 3 9,
 Qm 4 10] [3])
 (.seq (.reg [Qm 11 3,
 Qm 2 11] [2])
 .ret)))
noncomputable def DX:Cx:=⟨Tryz.prog,209,Tryz.f209,12,[],[],[.t 2]⟩
theorem JJ:Good DX:=⟨Tryz.func209,by kernel_rfl⟩
theorem Oy:DX.rs=[.t 2]:=rfl
theorem Pk (hl:args.length≤12) (h:Run DX K [.code JA] (Aq args) E σ):AQ Tryz.prog 209 args σ K:=
 AW (cx:=DX) (code:=Tryz.f209.body.getD .skip) JJ (by kernel_rfl) Tryz.ntmps209 hl (AZ DX _ (Av JA) _ [] (by kernel_rfl)) h
def Hk:C:=(.seq (.reg [Qo 4 (.mv (.c .AX))] [0,1])
 (.seq (.seq (.reg [Qm 5 0,
 Qo 6 (.call 65 [(.t 5),(.c (.d (.str [40])))]),
 Qo 7 (.un .not (.t 6))] [0,1,7])
 (.cond (.t 7) (.seq (.reg [Qo 4 (.mv (.c .AX))] [4])
 .ret)
 .skip))
 (.seq (.reg [Qm 8 0,
 Qm 9 1,
 Qo 10 (.call 214 [(.t 8),(.t 9)]),
 Qm 4 10] [4])
 .ret)))
noncomputable def Cq:Cx:=⟨Tryz.prog,210,Tryz.f210,11,[],[],[.t 4]⟩
theorem FU:Good Cq:=⟨Tryz.func210,by kernel_rfl⟩
theorem N3:Cq.rs=[.t 4]:=rfl
theorem Ny (hl:args.length≤11) (h:Run Cq K [.code Hk] (Aq args) E σ):AQ Tryz.prog 210 args σ K:=
 AW (cx:=Cq) (code:=Tryz.f210.body.getD .skip) FU (by kernel_rfl) Tryz.ntmps210 hl (AZ Cq _ (Av Hk) _ [] (by kernel_rfl)) h
def ME:C:=(.seq (.reg [Qo 2 (.al [(.d (.int .i64 0)),(.d (.str [])),(.d (.int .i64 0)),.AX,.AX,.AX] false)] [0,2])
 (.seq (.seq (.reg [Qm 4 0,
 Qo 5 (.call 65 [(.t 4),(.c (.d (.str [41])))])] [0,2,5])
 (.cond (.t 5) (.seq (.reg [Qo 6 (.bld [(.d (.int .i64 0)),(.d (.str [])),(.d (.int .i64 0)),.AX,.AX,.AX] [(0,1,(.c (.d (.int .i64 1))))]),
 ⟨none,.st (.t 2) (.t 6) 6,none⟩] [2])
 .ret)
 .skip))
 (.seq (.reg [Qm 7 0,
 Qo 8 (.call 131 [(.t 7)]),
 Qo 3 (.al [(.d (.int .i64 0)),(.d (.str [])),(.d (.int .i64 0)),.AX,.AX,.AX] false),
 ⟨none,.st (.t 3) (.t 8) 6,none⟩] [0,2,3])
 (.seq (.seq (.reg [Qm 9 0,
 Qo 10 (.call 65 [(.t 9),(.c (.d (.str [41])))])] [0,2,3,10])
 (.cond (.t 10) (.seq (.reg [Qo 11 (.ldl (.t 3) (some 6)),
 ⟨none,.st (.t 2) (.t 11) 6,none⟩] [2])
 .ret)
 .skip))
 (.seq (.reg [Qm 12 0,
 Qo 13 (.call 127 [(.t 12),(.c (.d (.str [44])))])] [0,2,3])
 (.seq (.SD (.one (Qo 14 (.ldl (.t 3) (some 6)))
 (.one (Qm 16 0)
 (.one (Qm 17 0)
 (.one (Qo 18 (.mkf 131 [(.t 17)] []))
 (.alt (Qo 15 (.M5 44 6 1 [(.d (.int .i64 0)),(.d (.str [])),(.d (.int .i64 0)),.AX,.AX,.AX] [(0,6,(.t 14))]))
 (.one (Qo 19 (.call 214 [(.t 16),(.t 18)]))
 (.one (Qo 20 (.app 44 6 104 (.t 15) (.t 19)))
 (.one (Qo 21 (.bld [(.d (.int .i64 0)),(.d (.str [])),(.d (.int .i64 0)),.AX,.AX,.AX] [(0,1,(.c (.d (.int .i64 5)))),(4,1,(.t 20))]))
 (.one ⟨none,.st (.t 2) (.t 21) 6,none⟩
 .done))))
 (.alt (Qo 19 (.call 214 [(.t 16),(.t 18)]))
 (.one (Qo 15 (.M5 44 6 1 [(.d (.int .i64 0)),(.d (.str [])),(.d (.int .i64 0)),.AX,.AX,.AX] [(0,6,(.t 14))]))
 (.one (Qo 20 (.app 44 6 104 (.t 15) (.t 19)))
 (.one (Qo 21 (.bld [(.d (.int .i64 0)),(.d (.str [])),(.d (.int .i64 0)),.AX,.AX,.AX] [(0,1,(.c (.d (.int .i64 5)))),(4,1,(.t 20))]))
 (.one ⟨none,.st (.t 2) (.t 21) 6,none⟩
 .done))))
 .done)))))) [2])
 .ret))))))
def MV:List (List Nat×PT):=[([0,2],.done),([0,2,5],.done),([2],.done),([0,2,3],.done),([0,2,3,10],.done),([2],.done),([0,2,3],.done),([2],(.one 0 (.one 2 (.one 3 (.one 4 (.alt 1 (.one 5 (.one 6 (.one 7 (.one 8 .done)))) (.alt 5 (.one 1 (.one 6 (.one 7 (.one 8 .done)))) .done)))))))]
noncomputable def CN:Cx:=⟨Tryz.prog,211,Tryz.f211,22,[15,300011,300014],[],[.c 2 (some 6)]⟩
theorem CJ:Good CN:=⟨Tryz.func211,by kernel_rfl⟩
theorem Ld:CN.rs=[.c 2 (some 6)]:=rfl
theorem MK (hl:args.length≤22) (h:Run CN K [.code ME] (Aq args) E σ):AQ Tryz.prog 211 args σ K:=
 AW (cx:=CN) (code:=Tryz.f211.body.getD .skip) CJ (by kernel_rfl) Tryz.ntmps211 hl (AZ CN _ MV _ [] (by kernel_rfl)) h
def Ki:C:=(.seq (.reg [Qo 2 (.al [(.d (.int .i64 0)),(.d (.str [])),(.d (.int .i64 0)),.AX,.AX,.AX] false)] [0,2])
 (.seq (.reg [Qm 4 0,
 Qo 5 (.call 127 [(.t 4),(.c (.d (.str [40])))])] [0,2])
 (.seq (.reg [Qo 6 (.bld [(.d (.int .i64 0)),(.d (.str [])),(.d (.int .i64 0)),.AX,.AX,.AX] [(0,1,(.c (.d (.int .i64 15))))]),
 Qo 3 (.al [(.d (.int .i64 0)),(.d (.str [])),(.d (.int .i64 0)),.AX,.AX,.AX] false),
 ⟨none,.st (.t 3) (.t 6) 6,none⟩] [0,2,3])
 (.seq (.seq (.reg [Qm 7 0,
 Qo 8 (.call 65 [(.t 7),(.c (.d (.str [45])))])] [0,2,3,8])
 (.cond (.t 8) (.reg [Qm 9 0,
 Qo 10 (.call 209 [(.t 9)]),
 Qo 11 (.un .neg (.t 10)),
 Qo 12 (.fld (.t 3) 2),
 ⟨none,.st (.t 12) (.t 11) 1,none⟩] [0,2,3])
 (.reg [Qm 13 0,
 Qo 14 (.call 209 [(.t 13)]),
 Qo 15 (.fld (.t 3) 2),
 ⟨none,.st (.t 15) (.t 14) 1,none⟩] [0,2,3])))
 (.seq (.reg [Qm 16 0,
 Qo 17 (.call 127 [(.t 16),(.c (.d (.str [41])))])] [2,3])
 (.seq (.reg [Qo 18 (.ldl (.t 3) (some 6)),
 ⟨none,.st (.t 2) (.t 18) 6,none⟩] [2])
 .ret))))))
noncomputable def EO:Cx:=⟨Tryz.prog,212,Tryz.f212,19,[300018],[],[.c 2 (some 6)]⟩
theorem HH:Good EO:=⟨Tryz.func212,by kernel_rfl⟩
theorem RF:EO.rs=[.c 2 (some 6)]:=rfl
theorem Rl (hl:args.length≤19) (h:Run EO K [.code Ki] (Aq args) E σ):AQ Tryz.prog 212 args σ K:=
 AW (cx:=EO) (code:=Tryz.f212.body.getD .skip) HH (by kernel_rfl) Tryz.ntmps212 hl (AZ EO _ (Av Ki) _ [] (by kernel_rfl)) h
def LX:C:=(.seq (.reg [Qo 14 (.bin .lss (.t 13) (.t 12))] [0,5,12,13,14])
 (.seq (.cond (.t 14) .skip
 (.exit 0))
 (.seq (.block 1 (.seq (.reg [Qm 15 0,
 Qo 16 (.call 127 [(.t 15),(.c (.d (.str [44])))])] [0,5,12,13])
 (.reg [Qm 17 5,
 Qm 18 0,
 Qo 19 (.call 131 [(.t 18)]),
 Qo 20 (.bsl 6 1 [(.d (.int .i64 0)),(.d (.str [])),(.d (.int .i64 0)),.AX,.AX,.AX] [(0,6,(.t 19))]),
 Qo 21 (.app 44 6 104 (.t 17) (.t 20)),
 Qm 5 21] [0,5,12,13])))
 (.reg [Qo 22 (.bin .add (.t 13) (.c (.d (.int .i64 1)))),
 Qm 13 22] [0,5,12,13]))))
def H2:C:=(.seq (.reg [Qo 4 (.mv (.c .AX))] [0,1])
 (.seq (.reg [Qm 6 0,
 Qo 7 (.call 127 [(.t 6),(.c (.d (.str [40])))])] [0,1])
 (.seq (.reg [Qm 8 0,
 Qo 9 (.call 131 [(.t 8)]),
 Qo 10 (.M5 44 6 1 [(.d (.int .i64 0)),(.d (.str [])),(.d (.int .i64 0)),.AX,.AX,.AX] [(0,6,(.t 9))]),
 Qm 5 10] [0,1,5])
 (.seq (.seq (.reg [Qm 11 1,
 Qo 12 (.bin .sub (.t 11) (.c (.d (.int .i64 1)))),
 Qo 13 (.mv (.c (.d (.int .i64 0))))] [0,5,12,13])
 (.block 0 (.loop LX)))
 (.seq (.reg [Qm 23 0,
 Qo 24 (.call 127 [(.t 23),(.c (.d (.str [41])))])] [5])
 (.seq (.reg [Qm 25 5,
 Qm 4 25] [4])
 .ret))))))
noncomputable def Ce:Cx:=⟨Tryz.prog,213,Tryz.f213,26,[10],[],[.t 4]⟩
theorem H5:Good Ce:=⟨Tryz.func213,by kernel_rfl⟩
theorem NC:Ce.rs=[.t 4]:=rfl
theorem NX (hl:args.length≤26) (h:Run Ce K [.code H2] (Aq args) E σ):AQ Tryz.prog 213 args σ K:=
 AW (cx:=Ce) (code:=Tryz.f213.body.getD .skip) H5 (by kernel_rfl) Tryz.ntmps213 hl (AZ Ce _ (Av H2) _ [] (by kernel_rfl)) h
def Hj:C:=(.seq (.reg [Qo 4 (.mv (.c .AX))] [0,1])
 (.seq (.reg [Qm 6 0,
 Qm 7 1,
 Qo 8 (.call 216 [(.t 6),(.c (.d (.str [44]))),(.t 7)]),
 Qm 5 8] [0,5])
 (.seq (.reg [Qm 9 0,
 Qo 10 (.call 127 [(.t 9),(.c (.d (.str [41])))])] [5])
 (.seq (.reg [Qm 11 5,
 Qm 4 11] [4])
 .ret))))
noncomputable def Cp:Cx:=⟨Tryz.prog,214,Tryz.f214,12,[],[],[.t 4]⟩
theorem Hq:Good Cp:=⟨Tryz.func214,by kernel_rfl⟩
theorem N2:Cp.rs=[.t 4]:=rfl
theorem Nx (hl:args.length≤12) (h:Run Cp K [.code Hj] (Aq args) E σ):AQ Tryz.prog 214 args σ K:=
 AW (cx:=Cp) (code:=Tryz.f214.body.getD .skip) Hq (by kernel_rfl) Tryz.ntmps214 hl (AZ Cp _ (Av Hj) _ [] (by kernel_rfl)) h
def M6:C:=(.seq (.seq (.reg [Qm 11 0,
 Qm 12 1,
 Qo 13 (.call 65 [(.t 11),(.t 12)])] [0,1,2,7,13])
 (.cond (.t 13) .skip
 (.exit 0)))
 (.block 1 (.reg [Qm 14 7,
 Qm 15 2,
 Qo 16 (.EU (.t 15) []),
 Qo 17 (.bsl 6 1 [(.d (.int .i64 0)),(.d (.str [])),(.d (.int .i64 0)),.AX,.AX,.AX] [(0,6,(.t 16))]),
 Qo 18 (.app 44 6 104 (.t 14) (.t 17)),
 Qm 7 18] [0,1,2,7])))
def IU:C:=(.seq (.reg [Qo 6 (.mv (.c .AX))] [0,1,2])
 (.seq (.reg [Qm 8 2,
 Qo 9 (.EU (.t 8) []),
 Qo 10 (.M5 44 6 1 [(.d (.int .i64 0)),(.d (.str [])),(.d (.int .i64 0)),.AX,.AX,.AX] [(0,6,(.t 9))]),
 Qm 7 10] [0,1,2,7])
 (.seq (.block 0 (.loop M6))
 (.seq (.reg [Qm 19 7,
 Qm 6 19] [6])
 .ret))))
noncomputable def Cz:Cx:=⟨Tryz.prog,216,Tryz.f216,20,[10],[],[.t 6]⟩
theorem I1:Good Cz:=⟨Tryz.func216,by kernel_rfl⟩
theorem OG:Cz.rs=[.t 6]:=rfl
theorem O4 (hl:args.length≤20) (h:Run Cz K [.code IU] (Aq args) E σ):AQ Tryz.prog 216 args σ K:=
 AW (cx:=Cz) (code:=Tryz.f216.body.getD .skip) I1 (by kernel_rfl) Tryz.ntmps216 hl (AZ Cz _ (Av IU) _ [] (by kernel_rfl)) h
attribute [go_sem] Wf OI Qz Ow Qv SI Qx QA RE Ov Qy Ox MR SH On Qw Ou Oq LK SL SJ Oo SF Qt Qu Pz LJ OH LI SK N5 Vi Lc RB SG RA N1 Oy N3 Ld RF NC N2 OG
end Go.Ab
