/- The tokens of formatted programs, in plain data. Reading the tokens of a formatted text back, in plain data: the rules. Reading the tokens of a formatted text back, in plain data: types. Reading the tokens of a formatted text back, in plain data: expressions. Reading the tokens of a formatted text back, in plain data: levels, programs. Blanks between tokens, and texts in a row: their tokens, in plain data. Two texts in a row, in plain data. What is read is not larger than its text, in plain data. The compact codes of the functions of this seat, computed out of the translation. Conditions: none. -/
import Derived.Test.YtifplkldbbcldaaGreatDoorProg
import Derived.KernelRfl
import Derived.Test.YtifplkldbbcldaaGreatDoorXQd
set_option linter.unusedSimpArgs false
set_option linter.unusedVariables false
set_option maxRecDepth 4000
set_option maxHeartbeats 8000000
open Bool renaming and_eq_true→AR,eq_false_iff→Jz
open List renaming all_eq_true→A7,append_assoc→AY,length_drop→Ah,drop_drop→DC,length_append→AA,append_nil→Ap,length_pos_iff→A5,takeWhile_cons→Mb,mem_cons→Cm,map_cons→AB
open Nat renaming le_trans→Ay,zero_le→C3
namespace Go.Ab
def atK (l:List (List KT)) (i:Nat):List KT:=l.getD i []
def plK (d:Nat) (k:Ex) (t:List KT):List KT:=if lvl k < d then sF t else t
def AFU (ks:List Ex) (ts:List (List KT)):List KT:=match ks with
 |[]=>r8 ts.tail
 |k::_=>(if dQ k then sF (atK ts 0) else plK 4 k (atK ts 0))++r8 ts.tail
def AFV (u:Int) (ks:List Ex) (ts:List (List KT)):List KT:=match ks with
 |[a,b]=>plK (if Hz u=1 then 2 else Hz u) a (atK ts 0)++((5,opT u)::plK (if Hz u=1 then 2 else Hz u+1) b (atK ts 1))
 |_=>[]
def tkN (o:Int) (n:Str) (u:Int) (ns:List Str) (ks:List Ex) (ts:List (List KT)) (aks:List (List KT)):List KT:=
 if o=7 then (4,[108,101,116])::(shK n++((5,[61])::(atK ts 0++((4,[105,110])::atK ts 1))))
                                                                 else if o=8 then (4,[108,101,116])::(ADD (ns.map shK)++((5,[61])::(atK ts 0++((4,[105,110])::atK ts 1))))
                                                                 else if o=9 then (4,[105,102])::(atK ts 0++((4,[116,104,101,110])::(atK ts 1++((4,[101,108,115,101])::atK ts 2))))
                                                                 else if o=10 then (4,[109,97,116,99,104])::(atK ts 0++((4,[119,105,116,104])::([(5,[124])].intercalate aks++[(4,[101,110,100])])))
                                                                 else if o=11 then (4,[102,110])::(r8 (ns.map fun s=>[(1,s)])++((5,[45,62])::atK ts 0))
                                                                 else if o=17 then (4,[116,114,121])::(atK ts 0++((4,[99,97,116,99,104])::(shK n++((5,[45,62])::(atK ts 1++[(4,[101,110,100])])))))
                                                                 else if o=13 then AFV u ks ts
                                                                 else if o=12 then AFU ks ts
                                                                 else if o=1 then [(5,[40]),(5,[41])]
                                                                 else if o=2 then (if u=1 then [(4,[116,114,117,101])] else [(4,[102,97,108,115,101])])
                                                                 else if o=3 then AB0 u
                                                                 else if o=5 then r8 ts
                                                                 else if o=14 then (4,prT u)::r8 ts
                                                                 else if o=16 then (4,[114,97,105,115,101])::r8 ts
                                                                 else if o=15 then (4,[116,105,99,107])::sF (AB0 u)
                                                                 else if o=4 then [(1,n)]
                                                                 else (2,n)::ADD ts
def AF2 (c:Str) (vs:List Str) (b:List KT):List KT:=(2,c)::(ADD (vs.map shK)++((5,[45,62])::b))
mutual
def tkE:Ex→List KT
 | .mk o n u ns ks al=>tkN o n u ns ks (AFF ks) (AFE al)
def AFF:List Ex→List (List KT)
 |[]=>[]
 |t::l=>tkE t::AFF l
def tkA:Al→List KT
 | .mk c vs b=>AF2 c vs (tkE b)
def AFE:List Al→List (List KT)
 |[]=>[]
 |t::l=>tkA t::AFE l
end
theorem AE3 {o u:Int} {q:Nat} (h:nkB o u q=true):o=1∨o=2∨o=3∨o=4∨o=5∨o=6∨o=7∨o=8∨o=9∨o=10∨o=11∨o=12∨o=13∨o=14∨o=15∨o=16∨o=17:=by
 unfold nkB at h
 repeat' (split at h)
 all_goals first|omega|cases h
theorem AC4 {α:Type} {l:List α} (h:l.length=1):∃a,l=[a]:=by
 match l,h with
 |[a],_=>exact ⟨a,rfl⟩
theorem zG {α:Type} {l:List α} (h:l.length=2):∃a b,l=[a,b]:=by
 match l,h with
 |[a,b],_=>exact ⟨a,b,rfl⟩
theorem vH {α:Type} {l:List α} (h:l.length=3):∃a b c,l=[a,b,c]:=by
 match l,h with
 |[a,b,c],_=>exact ⟨a,b,c,rfl⟩
theorem ACN {o:Int} {al:List Al} (h:asB o al=true):∀a∈al,Re a=true:=fun a ha=>by
 unfold asB at h
 split at h
 · simp only [AR,A7] at h;exact h.2 a ha
 · have:al=[]:=by simpa using h
   rw [this] at ha;cases ha
end Go.Ab
namespace Go.Ab
def hdT (k:List KT):Str:=(k.headD (6,[])).2
def hdK (k:List KT):Int:=(k.headD (6,[])).1
def noT (l:List Str) (k:List KT):Prop:=l.contains (hdT k)=false
def Rd {α:Type} (N:Nat) (m:PM α) (a:α) (ks:List KT) (K:List KT→Prop):Prop:=
 ∀r p k,r.length≤N→r.length≤17000→strip r=ks++k→K k→m.run ⟨r,false,p⟩=(a,⟨r.drop ks.length,false,p⟩)
def Ac (N:Nat) (m:PM Ex) (c:Nat→Ex→PM Ex) (e:Ex) (ks:List KT) (K:List KT→Prop):Prop:=
 ∃j,j≤ks.length∧∀r p k,r.length≤N→r.length≤17000→strip r=ks++k→K k→m.run ⟨r,false,p⟩=(c (Af - j) e).run ⟨r.drop ks.length,false,p⟩
variable {α β:Type} {N:Nat} {K:List KT→Prop}
theorem fD (r:List Tok):(strip r).length=r.length:=by simp [strip]
theorem RG {r:List Tok} {ks k:List KT} (h:strip r=ks++k):strip (r.drop ks.length)=k:=by
 have:=congrArg (List.drop ks.length) h
 rw [List.drop_left] at this
 rw [← this,strip,strip,List.map_drop]
theorem fC {r:List Tok} {k:List KT} (h:strip r=k):(r.headD C6).text=hdT k∧(r.headD C6).kind=hdK k:=by
 subst h
 cases r with
 |nil=>exact ⟨rfl,rfl⟩
 |cons t l=>exact ⟨rfl,rfl⟩
theorem Rd.mono {m:PM α} {a:α} {ks:List KT} {M:Nat} (h:Rd N m a ks K) (hM:M≤N):Rd M m a ks K:=fun r p k h1=>h r p k (Ay h1 hM)
theorem Rd.imp {m:PM α} {a:α} {ks:List KT} {K':List KT→Prop} (h:Rd N m a ks K) (hK:∀k,K' k→K k):Rd N m a ks K':=fun r p k h1 h2 h3 h4=>h r p k h1 h2 h3 (hK k h4)
theorem Rd.pure (a:α):Rd N (.pure a) a [] K:=fun _ _ _ _ _ _ _=>rfl
theorem Rd.bind {m:PM α} {f:α→PM β} {a:α} {b:β} {k1 k2:List KT} {K1:List KT→Prop} (h1:Rd N m a k1 K1) (h2:Rd (N - k1.length) (f a) b k2 K) (hK:∀k,K k→K1 (k2++k)):Rd N (m.bind f) b (k1++k2) K:=fun r p k hN hL hs hk=>by
 rw [AY] at hs
 have e1:=h1 r p (k2++k) hN hL hs (hK k hk)
 have e2:=h2 (r.drop k1.length) p k (by rw [Ah];omega) (by rw [Ah];omega) (RG hs) hk
 show (f (m.run ⟨r,false,p⟩).1).run (m.run ⟨r,false,p⟩).2=_
 rw [e1]
 show (f a).run ⟨r.drop k1.length,false,p⟩=_
 rw [e2,DC,AA]
theorem Rd.map {m:PM α} {a:α} {ks:List KT} (g:α→β) (h:Rd N m a ks K):Rd N (m.map g) (g a) ks K:=by
 have:=Rd.bind (f:=fun a=>PM.pure (g a)) h (Rd.pure (K:=K) (g a)) (fun k h=>h)
 rwa [Ap] at this
theorem drop1 (r:List Tok):r.drop 1=r.tail:=List.drop_one
theorem Rd.exp {t:Str} {ht:t≠[]} (q:Int):Rd N (PM.exp t ht) () [(q,t)] K:=fun r p k _ _ hs _=>by
 have hh:=(fC hs).1
 have e:(PM.exp t ht).run ⟨r,false,p⟩=((),⟨r.tail,false,p⟩):=if_pos (by simp only [PSt.hd,hh];simp [hdT])
 rw [e,← drop1];rfl
theorem Rd.take {q:Int} {hq:q≠6} (s:Str):Rd N (PM.take q hq) s [(q,s)] K:=fun r p k _ _ hs _=>by
 obtain ⟨h1,h2⟩:=fC hs
 have e:(PM.take q hq).run ⟨r,false,p⟩=((r.headD C6).text,⟨r.tail,false,p⟩):=if_pos (by simp only [PSt.hd,h2];simp [hdK])
 rw [e,h1,← drop1];rfl
theorem AA4 {s t:Str} (h:Gi s=false) (ht:Gi t=true):s≠t:=fun e=>by rw [e,ht] at h;cases h
end Go.Ab
namespace Go.Ab
variable {N:Nat} {K:List KT→Prop}
end Go.Ab
namespace Go.Ab
variable {N:Nat} {K:List KT→Prop}
def opens:List Str:=[[108,101,116],[105,102],[109,97,116,99,104],[102,110],[116,114,121]]
def Wm (ks:List KT) (b:Prop):Prop:=∃q x l,ks=(q,x)::l∧x≠[41]∧(b→opens.contains x=false)
theorem AFZ {x:Str} {l:List Str} (h:Gi x=false) (hl:l.all Gi=true):l.contains x=false:=by
 rw [Jz]
 intro hc
 have hm:x∈l:=by simpa [List.contains_eq_mem] using hc
 have:=A7.1 hl x hm
 rw [h] at this;cases this
theorem Wm.par {t:List KT} {b:Prop}:Wm (sF t) b:=⟨_,_,_,rfl,by decide,fun _=>by decide⟩
theorem Wm.app {t k:List KT} {b:Prop} (h:Wm t b):Wm (t++k) b:=by
 obtain ⟨q,x,l,rfl,h1,h2⟩:=h
 exact ⟨q,x,l++k,rfl,h1,h2⟩
theorem Wm.c {q:Int} {x:Str} {l:List KT} {b:Prop} (h1:x≠[41]) (h2:b→opens.contains x=false):Wm ((q,x)::l) b:=⟨q,x,l,rfl,h1,h2⟩
theorem Wm.w {q:Int} {x:Str} {l:List KT} {b:Prop} (h:Gi x=false):Wm ((q,x)::l) b:=⟨q,x,l,rfl,AA4 h (by decide),fun _=>AFZ h (by decide)⟩
theorem Wm.plK {d:Nat} {e:Ex} {t:List KT} (hd:1≤d) (h:Wm t (1≤lvl e)) {b:Prop}:Wm (plK d e t) b:=by
 unfold Ab.plK
 split
 · exact Wm.par
 · rename_i hl
   obtain ⟨q,x,l,e1,h1,h2⟩:=h
   exact ⟨q,x,l,e1,h1,fun _=>h2 (by omega)⟩
def Gs (N:Nat) (m m':PM Ex) (ks:List KT) (K:List KT→Prop):Prop:=
 ∀r p k,r.length≤N→r.length≤17000→strip r=ks++k→K k→m.run ⟨r,false,p⟩=m'.run ⟨r.drop ks.length,false,p⟩
theorem Gs.refl (m:PM Ex):Gs N m m [] K:=fun _ _ _ _ _ _ _=>rfl
theorem Gs.bind {α:Type} {m:PM α} {f:α→PM Ex} {m':PM Ex} {a:α} {k1 k2:List KT} {K1:List KT→Prop} (h1:Rd N m a k1 K1) (h2:Gs (N - k1.length) (f a) m' k2 K) (hK:∀k,K k→K1 (k2++k)):Gs N (m.bind f) m' (k1++k2) K:=fun r p k hN hL hs hk=>by
 rw [AY] at hs
 have e1:=h1 r p (k2++k) hN hL hs (hK k hk)
 have e2:=h2 (r.drop k1.length) p k (by rw [Ah];omega) (by rw [Ah];omega) (RG hs) hk
 show (f (m.run ⟨r,false,p⟩).1).run (m.run ⟨r,false,p⟩).2=_
 rw [e1]
 show (f a).run ⟨r.drop k1.length,false,p⟩=_
 rw [e2,DC,AA]
theorem Gs.last {α:Type} {m:PM α} {f:α→PM Ex} {a:α} {k1:List KT} (h1:Rd N m a k1 K):Gs N (m.bind f) (f a) k1 K:=by
 have:=Gs.bind (m':=f a) (K:=K) h1 (Gs.refl (f a)) (fun k h=>h)
 rwa [Ap] at this
theorem Ac.of {m:PM Ex} {c:Nat→Ex→PM Ex} {e:Ex} {ks:List KT} (h:Rd N m e ks K):Ac N (m.bind fun a=>c Af a) c e ks K:=⟨0,C3 _,Gs.last (f:=fun a=>c Af a) h⟩
theorem Ac.step {m:PM Ex} {c:Nat→Ex→PM Ex} {a e:Ex} {k1 k2:List KT} {K1:List KT→Prop} (h1:Ac N m c a k1 K1) (h2:∀n,Gs (N - k1.length) (c (n+1) a) (c n e) k2 K) (hk2:k2≠[]) (hK:∀k,K k→K1 (k2++k)):Ac N m c e (k1++k2) K:=by
 obtain ⟨j,hj,h1⟩:=h1
 have hl2:1≤k2.length:=A5.2 hk2
 refine ⟨j+1,by rw [AA];omega,fun r p k hN hL hs hk=>?_⟩
 have hsl:=congrArg List.length hs
 rw [fD,AA,AA] at hsl
 rw [AY] at hs
 have e1:=h1 r p (k2++k) hN hL hs (hK k hk)
 have hf:=Bo
 have e2:=h2 (Af - (j+1)) (r.drop k1.length) p k (by rw [Ah];omega) (by rw [Ah];omega) (RG hs) hk
 rw [e1,show Af - j=Af - (j+1)+1 by omega,e2,DC,AA]
theorem Ac.fin {m:PM Ex} {c:Nat→Ex→PM Ex} {e:Ex} {ks:List KT} {K':List KT→Prop} (h:Ac N m c e ks K) (hK:∀k,K' k→K k) (hc:∀n r p,K' (strip r)→(c n e).run ⟨r,false,p⟩=(e,⟨r,false,p⟩)):Rd N m e ks K':=by
 obtain ⟨j,_,h⟩:=h
 intro r p k hN hL hs hk
 rw [h r p k hN hL hs (hK k hk)]
 exact hc _ _ _ (by rw [RG hs];exact hk)
theorem Ac.imp {m:PM Ex} {c:Nat→Ex→PM Ex} {e:Ex} {ks:List KT} {K':List KT→Prop} (h:Ac N m c e ks K) (hK:∀k,K' k→K k):Ac N m c e ks K':=by
 obtain ⟨j,hj,h⟩:=h
 exact ⟨j,hj,fun r p k hN hL hs hk=>h r p k hN hL hs (hK k hk)⟩
def sEx:List Str:=[[40],[42],[47],[37],[43],[45],[60],[60,61],[61,61]]
def HE (E:PM Ex) (N:Nat):Prop:=∀x:Ex,x.nb→∀M,M+1≤N→Rd M E x (tkE x) (noT sEx)
theorem HE.mono {E:PM Ex} {M:Nat} (h:HE E N) (hM:M≤N):HE E M:=fun x hx M' h'=>h x hx M' (by omega)
end Go.Ab
namespace Go.Ab
variable {N:Nat} {K:List KT→Prop}
theorem Ac.zero {m:PM Ex} {c:Nat→Ex→PM Ex} {e:Ex} {ks:List KT} (h:ks≠[]):Ac 0 m c e ks K:=⟨0,C3 _,fun r p k h1 _ hs _=>by
 have:=congrArg List.length hs
 rw [fD,AA] at this
 have:=A5.2 h
 omega⟩
section
variable {E:PM Ex}
end
end Go.Ab
namespace Go.Ab
theorem tN {p:UInt8→Bool}:∀ {l:Str},∀x∈l.takeWhile p,p x=true
 |[],x,h=>by cases h
 |b::l,x,h=>by
  rw [Mb] at h
  split at h
  · rename_i hb
    rcases Cm.1 h with rfl|h
    · exact hb
    · exact tN x h
  · cases h
def rA (x:Pg×PSt):Pg×Nat×Int:=if x.2.f then (⟨[],[]⟩,x.2.p,2) else if DM x.1 then (x.1,0,0) else (⟨[],[]⟩,0,9)
theorem VF {s:Str} (h:(Au s).2.2=0):Ew s=rA (Lf.run ⟨(Au s).1,false,0⟩):=by
 unfold Ew rA
 rw [if_neg (by rw [h];simp)]
theorem BW {s:PSt} (h:WF s.r):s.adv.r.length+1=s.r.length:=by
 obtain ⟨r,f,p⟩:=s
 cases r with
 |nil=>exact h.elim
 |cons t l=>rfl
end Go.Ab
namespace Go.Ab
theorem wO (n:Nat) (ds:List DE) (fs:List FE) (s:PSt):(M6 (n+1) ds fs).run s=
 if s.hd.kind==6 then (⟨ds,fs⟩,s)
                         else if s.hd.text==[100,97,116,97] then (M6 n (ds++[(Uf.run s.adv).1]) fs).run (Uf.run s.adv).2
                         else if s.hd.text==[102,117,110] then (M6 n ds (fs++[(YZ.run s.adv).1])).run (YZ.run s.adv).2
                         else (M6 n ds fs).run s.fail:=rfl
theorem ADX {s:PSt} (h:WF s.r) (hk:(s.hd.kind==6)=false):2≤s.r.length:=by
 obtain ⟨r,f,p⟩:=s
 match r,h,hk with
 |[t],h,hk=>
  have:(PSt.mk [t] f p).hd=t:=rfl
  rw [this,h.1] at hk;cases hk
 |t::u::l,_,_=>simp
theorem iM {s:PSt} (h:WF s.r):s.fail.r.length=1:=by
 have:1≤s.r.length:=A5.2 h.ne
 show (Vu s.r).length=1
 unfold Vu;rw [Ah];omega
theorem v7 {a:Str} (h:(Ew a).2.2=0):(Au a).2.2=0∧(Lf.run ⟨(Au a).1,false,0⟩).2.f=false∧(Ew a).1=(Lf.run ⟨(Au a).1,false,0⟩).1∧DM (Ew a).1=true:=by
 have h0:(Au a).2.2=0:=by
  apply Classical.byContradiction
  intro hne
  unfold Ew at h
  rw [if_pos hne] at h
  exact hne h
 rw [VF h0] at h ⊢
 unfold rA at h ⊢
 split at h
 · cases h
 · rename_i hf
   rw [if_neg hf]
   split at h
   · rename_i hv
     rw [if_pos hv]
     exact ⟨h0,by simpa using hf,rfl,hv⟩
   · cases h
end Go.Ab
namespace Go.Ab
variable {α β:Type}
def SzO (c:Nat) (m:PM α) (μ:α→Nat):Prop:=∀s,WF s.r→(m.run s).2.f=false→μ (m.run s).1+(m.run s).2.r.length≤s.r.length+c
theorem SzO.pure {c:Nat} {a:α} {μ:α→Nat} (h:μ a≤c):SzO c (.pure a) μ:=fun s _ _=>by
 show μ a+s.r.length≤s.r.length+c;omega
theorem SzO.bind {c:Nat} {m:PM α} {f:α→PM β} {μ:α→Nat} {ν:β→Nat} (h:SzO 0 m μ) (hf:∀a,SzO (c+μ a) (f a) ν):SzO c (m.bind f) ν:=fun s hw hs=>by
 have hs':((f (m.run s).1).run (m.run s).2).2.f=false:=hs
 have h1:(m.run s).2.f=false:=by
  cases hc:(m.run s).2.f with
  |false=>rfl
  |true=>have:=((f (m.run s).1).st _ hc).1;rw [hs'] at this;cases this
 have e1:=h s hw h1
 have e2:=hf (m.run s).1 (m.run s).2 (m.sf s hw).1 hs'
 show ν ((f (m.run s).1).run (m.run s).2).1+((f (m.run s).1).run (m.run s).2).2.r.length≤_
 omega
theorem SzO.acc {c:Nat} {t:Str} {ht:t≠[]} {y n:PM α} {μ:α→Nat} (hy:SzO (c+1) y μ) (hn:SzO c n μ):SzO c (.acc t ht y n) μ:=fun s hw hs=>by
 cases hc:s.hd.text==t with
 |true=>
  have e:(PM.acc t ht y n).run s=y.run s.adv:=if_pos hc
  rw [e] at hs ⊢
  have hk:s.hd.text≠[]:=by rw [beq_iff_eq] at hc;rw [hc];exact ht
  have h1:=hy s.adv (MP hw (.inr hk)).1 hs
  have h2:=BW hw
  omega
 |false=>
  have e:(PM.acc t ht y n).run s=n.run s:=if_neg (by rw [hc];decide)
  rw [e] at hs ⊢
  exact hn s hw hs
theorem SzO.kind {c:Nat} {k:Int} {y n:PM α} {μ:α→Nat} (hy:SzO c y μ) (hn:SzO c n μ):SzO c (.kind k y n) μ:=fun s hw hs=>by
 cases hc:s.hd.kind==k with
 |true=>
  have e:(PM.kind k y n).run s=y.run s:=if_pos hc
  rw [e] at hs ⊢
  exact hy s hw hs
 |false=>
  have e:(PM.kind k y n).run s=n.run s:=if_neg (by rw [hc];decide)
  rw [e] at hs ⊢
  exact hn s hw hs
theorem SzO.fail {c:Nat} {a:α} {μ:α→Nat}:SzO c (.fail a) μ:=fun s _ h=>by cases h
theorem SzO.tok {cc:Int→Str→Bool} {hc:∀k t,cc k t=true→k≠6∨t≠[]} {g:Str→α} {b:α}:SzO 0 (.tok cc hc g b) (fun _=>1):=fun s hw hs=>by
 cases hcc:cc s.hd.kind s.hd.text with
 |true=>
  have e:(PM.tok cc hc g b).run s=(g s.hd.text,s.adv):=if_pos hcc
  rw [e]
  have h2:=BW hw
  show 1+s.adv.r.length≤_
  omega
 |false=>
  have e:(PM.tok cc hc g b).run s=(b,s.fail):=if_neg (by rw [hcc];decide)
  rw [e] at hs
  cases hs
theorem SzO.mono {c:Nat} {m:PM α} {μ ν:α→Nat} (h:SzO c m μ) (hl:∀a,ν a≤μ a):SzO c m ν:=fun s hw hs=>by
 have:=h s hw hs;have:=hl (m.run s).1;omega
def EH (μ:α→Nat) (l:List α):Nat:=(l.map μ).sum
theorem kJ (μ:α→Nat) (l m:List α):EH μ (l++m)=EH μ l+EH μ m:=by simp [EH]
theorem bQ (μ:α→Nat) (x:α):EH μ [x]=μ x:=by simp [EH]
theorem W2 {μ:α→Nat} {l:List α} {x:α} (h:x∈l):μ x≤EH μ l:=by
 induction l with
 |nil=>cases h
 |cons y l ih=>
  simp only [EH,AB,List.sum_cons] at ih ⊢
  rcases Cm.1 h with rfl|h
  · omega
  · have:=ih h;omega
theorem bR {read:PM α} {t:Str} {ht:t≠[]} {μ:α→Nat} (h:SzO 0 read μ):∀(n c:Nat) (l:List α),EH μ l≤c→SzO c (Bp read t ht n l) (EH μ)
 |0,c,l,hl=>SzO.pure hl
 |n+1,c,l,hl=>SzO.acc (SzO.bind h (fun a=>bR h n _ _ (by rw [kJ,bQ];omega))) (SzO.pure hl)
theorem fE {read:PM α} {t:Str} {ht:t≠[]} {μ:α→Nat} (h:SzO 0 read μ):SzO 0 (items read t ht) (EH μ):=
 SzO.bind h (fun a=>bR h _ _ _ (by rw [bQ];omega))
theorem OV {t:Str} {ht:t≠[]}:SzO 0 (.exp t ht) (fun _=>1):=SzO.tok
theorem TT {k:Int} {hk:k≠6}:SzO 0 (.take k hk) (fun _=>1):=SzO.tok
theorem VT {read:PM α} {μ:α→Nat} (h:SzO 0 read μ):SzO 0 (listed read) (EH μ):=SzO.bind (fE h) (fun a=>SzO.bind OV (fun _=>SzO.pure (by omega)))
theorem nX {read:PM α} {μ:α→Nat} (h:SzO 0 read μ):SzO 0 (closed read) (EH μ):=SzO.acc (SzO.pure (by simp [EH])) (VT h)
theorem bS {read:PM α} {μ:α→Nat} (h:SzO 0 read μ):SzO 0 (If read) (EH μ):=SzO.acc (fun s hw hs=>by have:=VT h s hw hs;omega) (SzO.pure (by simp [EH]))
theorem Ps:∀l:List TE,TE.BY l=EH TE.size l
 |[]=>rfl
 |t::l=>by rw [TE.BY,Ps l];simp [EH]
theorem pZ:∀n,SzO 0 (GK n) TE.size
 |0=>SzO.fail
 |n+1=>by
  have ih:=pZ n
  have hel:∀k,SzO 1 (OQ k (GK n)) TE.size:=fun k=>SzO.bind OV (fun _=>SzO.bind ih (fun t=>SzO.bind OV (fun _=>SzO.pure (by simp [TE.size,TE.BY];omega))))
  rw [GK]
  refine SzO.kind (SzO.bind TT (fun x=>SzO.pure (by simp [TE.size,TE.BY]))) ?_
  refine SzO.kind (SzO.bind TT (fun x=>SzO.bind (bS ih) (fun l=>SzO.pure (by rw [TE.size,Ps];omega)))) ?_
  refine SzO.acc (SzO.pure (by simp [TE.size,TE.BY])) (SzO.acc (SzO.pure (by simp [TE.size,TE.BY])) (SzO.acc (SzO.pure (by simp [TE.size,TE.BY])) (SzO.acc (hel 7) (SzO.acc (hel 8) (SzO.acc ?_ (SzO.acc ?_ SzO.fail))))))
  · exact SzO.bind ih (fun a=>SzO.bind OV (fun _=>SzO.bind (VT ih) (fun l=>SzO.pure (by rw [TE.size,TE.BY,Ps];omega))))
  · exact SzO.bind OV (fun _=>SzO.bind (nX ih) (fun l=>SzO.bind OV (fun _=>SzO.bind ih (fun t=>SzO.pure (by rw [TE.size,TE.FV,TE.BY,TE.BY,Ps];omega)))))
def tU (c:CE):Nat:=EH TE.size c.args
def lN (d:DE):Nat:=EH tU d.cons
theorem AAX:SzO 0 jI tU:=SzO.bind TT (fun c=>SzO.bind (bS (pZ _)) (fun l=>SzO.pure (by show EH TE.size l≤_;omega)))
theorem xT:SzO 0 Uf lN:=SzO.bind TT (fun c=>SzO.bind (bS (μ:=fun _=>0) (TT.mono (fun _=>by omega))) (fun l=>SzO.bind OV (fun _=>SzO.bind (fE AAX) (fun cs=>SzO.bind OV (fun _=>SzO.pure (by show EH tU cs≤_;omega))))))
theorem zro (m:PM α):SzO 0 m (fun _=>0):=fun s hw _=>by have:=(m.sf s hw).2.length_le;simp only;omega
theorem W4:∀(n c:Nat) (ds:List DE) (fs:List FE),EH lN ds≤c→SzO c (M6 n ds fs) (fun p=>EH lN p.data)
 |0,c,ds,fs,h=>SzO.pure h
 |n+1,c,ds,fs,h=>by
  rw [M6]
  exact SzO.kind (SzO.pure h) (SzO.acc (SzO.bind xT (fun d=>W4 n _ _ _ (by rw [kJ,bQ];omega))) (SzO.acc (SzO.bind (zro YZ) (fun f=>W4 n _ _ _ (by omega))) (SzO.bind (zro (PM.fail ())) (fun _=>W4 n _ _ _ (by omega)))))
theorem Xz {r:List Tok} {p:Nat} (hw:WF r) (hl:r.length≤17000) (hf:(Lf.run ⟨r,false,p⟩).2.f=false):∀d∈(Lf.run ⟨r,false,p⟩).1.data,∀c∈d.cons,∀t∈c.args,t.size≤17000:=by
 have h:=W4 Af 0 [] [] (by simp [EH]) ⟨r,false,p⟩ hw hf
 intro d hd c hc t ht
 have h1:t.size≤tU c:=W2 ht
 have h2:tU c≤lN d:=W2 hc
 have h3:lN d≤EH lN (Lf.run ⟨r,false,p⟩).1.data:=W2 hd
 have h4:EH lN (Lf.run ⟨r,false,p⟩).1.data+(Lf.run ⟨r,false,p⟩).2.r.length≤r.length+0:=h
 omega
end Go.Ab
namespace Go.Ab
open Go.Proofs
variable {args:List AV} {σ:AK} {K:AV→AK→Prop}
def Z3:C:=(.seq (.reg [Qo 2 (.al [.AO,.AO] false),
 Qi 3 0,
 Qi 4 0] [0,2])
 (.seq (.reg [Qm 11 0,
 Qc 12 21 11,
 Qm 10 12,
 Qo 13 (.ext (.t 10) 0),
 Qo 14 (.ext (.t 10) 1),
 Qo 15 (.ext (.t 10) 2),
 Qm 5 13,
 Qm 6 14,
 Qm 7 15] [2,5,6,7])
 (.seq (.seq (.reg [Qm 16 7,
 Qo 17 (.bin .neq (.t 16) (.c (.d (.int .i64 0))))] [2,5,6,7,17])
 (.cond (.t 17) (.seq (.reg [Qo 18 (.bld [.AO,.AO] []),
 Qm 19 6,
 Qm 20 7,
 Qz 2 18 2,
 Qm 3 19,
 Qm 4 20] [2,3,4])
 .ret)
 .skip))
 (.seq (.reg [Qm 21 5,
 Qo 22 (.bld [.AO,(.d (.int .i64 0)),(.d (.bool false)),(.d (.int .i64 0))] [(0,1,(.t 21))]),
 Qo 23 (.box (.t 22) true),
 Qm 8 23] [2,8])
 (.seq (.reg [Qm 24 8,
 Qc 25 28 24,
 Qo 9 (.al [.AO,.AO] false),
 Qz 9 25 2] [2,8,9])
 (.seq (.seq (.reg [Qm 26 8,
 Qo 27 (.nck (.t 26)),
 Qd 28 27 2,
 Qo 29 (.ld (.t 28) none)] [2,8,9,29])
 (.cond (.t 29) (.seq (.Q8 (.one (Qo 30 (.bld [.AO,.AO] []))
 (.one (Qm 31 8)
 (.one (Qo 32 (.nck (.t 31)))
 (.one (Qd 33 32 3)
 (.alt (Qo 34 (.ld (.t 33) none))
 (.one (Qz 2 30 2)
 (.one (Qm 3 34)
 (.one (Qi 4 2)
 .done)))
 (.alt (Qz 2 30 2)
 (.one (Qo 34 (.ld (.t 33) none))
 (.one (Qm 3 34)
 (.one (Qi 4 2)
 .done)))
 .done)))))) [2,3,4])
 .ret)
 .skip))
 (.seq (.seq (.reg [Qo 35 (.ldl (.t 9) (some 2)),
 Qc 36 19 35,
 Qo 37 (.un .not (.t 36))] [2,9,37])
 (.cond (.t 37) (.seq (.reg [Qo 38 (.bld [.AO,.AO] []),
 Qz 2 38 2,
 Qi 3 0,
 Qi 4 9] [2,3,4])
 .ret)
 .skip))
 (.seq (.reg [Qo 39 (.ldl (.t 9) (some 2)),
 Qz 2 39 2,
 Qi 3 0,
 Qi 4 0] [2,3,4])
 .ret))))))))
def bV:List (List Nat×PT):=[([0,2],.done),([2,5,6,7],.done),([2,5,6,7,17],.done),([2,3,4],.done),([2,8],.done),([2,8,9],.done),([2,8,9,29],.done),([2,3,4],(.one 0 (.one 1 (.one 2 (.one 3 (.alt 4 (.one 5 (.one 6 (.one 7 .done))) (.alt 5 (.one 4 (.one 6 (.one 7 .done))) .done))))))),([2,9,37],.done),([2,3,4],.done),([2,3,4],.done)]
noncomputable def He:Cx:=⟨Tryz.prog,12,Tryz.f12,40,[23,300035,300039],[],[.c 2 (some 2),.t 3,.t 4]⟩
theorem HU:Good He:=⟨Tryz.func12,by kernel_rfl⟩
theorem Y8:He.rs=[.c 2 (some 2),.t 3,.t 4]:=rfl
theorem Zl (hl:args.length≤40) (h:Run He K [.code Z3] (Ak args) E σ):AP Tryz.prog 12 args σ K:=
 AT (cx:=He) (code:=Tryz.f12.body.getD .skip) HU (by kernel_rfl) Tryz.ntmps12 hl (AW He _ bV _ [] (by kernel_rfl)) h
def NG:C:=(.seq (.seq (.reg [Qm 4 0,
 Qc 5 64 4,
 Qo 6 (.fd (.t 5) 0 none),
 Qo 7 (.bin .neq (.t 6) (.c (.d (.int .i64 6))))] [0,2,3,7])
 (.cond (.t 7) .skip
 (.exit 0)))
 (.block 1 (.block 2 (.seq (.reg [Qm 11 0,
 Qs 12 65 11 [100,97,116,97],
 Qm 10 12] [0,2,3,10])
 (.cond (.t 10) (.reg [Qd 13 3 0,
 Ql 14 13,
 Qm 15 0,
 Qc 16 66 15,
 Qo 17 (.bsl 3 1 [(.d (.str [])),.AO,.AO] [(0,3,(.t 16))]),
 Qo 18 (.app 61 3 64 (.t 14) (.t 17)),
 Qd 19 3 0,
 Qz 19 18 1] [0,2,3])
 (.seq (.reg [Qm 21 0,
 Qs 22 65 21 [102,117,110],
 Qm 20 22] [0,2,3,20])
 (.cond (.t 20) (.reg [Qd 23 3 1,
 Ql 24 23,
 Qm 25 0,
 Qc 26 67 25,
 Qo 27 (.bsl 8 1 [(.d (.str [])),.AO,(.d (.int .i64 0)),(.d (.str [])),(.d (.int .i64 0)),.AO,.AO,.AO] [(0,8,(.t 26))]),
 Qo 28 (.app 66 8 144 (.t 24) (.t 27)),
 Qd 29 3 1,
 Qz 29 28 1] [0,2,3])
 (.reg [Qm 8 0,
 Qc 9 68 8] [0,2,3]))))))))
def Ik:C:=(.seq (.reg [Qo 2 (.al [.AO,.AO] false)] [0,2])
 (.seq (.reg [Qo 3 (.al [.AO,.AO] false)] [0,2,3])
 (.seq (.block 0 (.loop NG))
 (.seq (.reg [Qo 30 (.ldl (.t 3) (some 2)),
 Qz 2 30 2] [2])
 .ret))))
noncomputable def Bu:Cx:=⟨Tryz.prog,28,Tryz.f28,31,[300014,300024,300030],[],[.c 2 (some 2)]⟩
theorem It:Good Bu:=⟨Tryz.func28,by kernel_rfl⟩
theorem Of:Bu.rs=[.c 2 (some 2)]:=rfl
theorem PN (hl:args.length≤31) (h:Run Bu K [.code Ik] (Ak args) E σ):AP Tryz.prog 28 args σ K:=
 AT (cx:=Bu) (code:=Tryz.f28.body.getD .skip) It (by kernel_rfl) Tryz.ntmps28 hl (AW Bu _ (Aw Ik) _ [] (by kernel_rfl)) h
def LI:C:=(.seq (.reg [Qo 2 (.al [(.d (.int .i64 0)),(.d (.str [])),(.d (.int .i64 0))] false)] [0,2])
 (.seq (.reg [Qm 3 0,
 Qo 4 (.nck (.t 3)),
 Qd 5 4 0,
 Qo 6 (.ld (.t 5) none),
 Qm 7 0,
 Qo 8 (.nck (.t 7)),
 Qd 9 8 1,
 Qo 10 (.ld (.t 9) none),
 Qo 11 (.ix (.t 6) (.t 10) 3),
 Qo 12 (.ld (.t 11) (some 3)),
 Qz 2 12 3] [2])
 .ret))
noncomputable def ET:Cx:=⟨Tryz.prog,64,Tryz.f64,13,[],[],[.c 2 (some 3)]⟩
theorem L2:Good ET:=⟨Tryz.func64,by kernel_rfl⟩
theorem SD:ET.rs=[.c 2 (some 3)]:=rfl
theorem Sn (hl:args.length≤13) (h:Run ET K [.code LI] (Ak args) E σ):AP Tryz.prog 64 args σ K:=
 AT (cx:=ET) (code:=Tryz.f64.body.getD .skip) L2 (by kernel_rfl) Tryz.ntmps64 hl (AW ET _ (Aw LI) _ [] (by kernel_rfl)) h
def JS:C:=(.seq (.reg [Qb 4 false] [0,1])
 (.seq (.seq (.reg [Qm 5 0,
 Qc 6 64 5,
 Qo 7 (.fd (.t 6) 1 none),
 Qm 8 1,
 Qo 9 (.bin .neq (.t 7) (.t 8))] [0,9])
 (.cond (.t 9) (.seq (.reg [Qb 4 false] [4])
 .ret)
 .skip))
 (.seq (.reg [Qm 10 0,
 Qo 11 (.nck (.t 10)),
 Qd 12 11 1,
 Qo 13 (.ld (.t 12) none),
 Qp 14 13 1,
 Qo 15 (.nck (.t 10)),
 Qd 16 15 1,
 Qz 16 14 1] [])
 (.seq (.reg [Qb 4 true] [4])
 .ret))))
noncomputable def D3:Cx:=⟨Tryz.prog,65,Tryz.f65,17,[],[],[.t 4]⟩
theorem G0:Good D3:=⟨Tryz.func65,by kernel_rfl⟩
theorem Pb:D3.rs=[.t 4]:=rfl
theorem Jb (hl:args.length≤17) (h:Run D3 K [.code JS] (Ak args) E σ):AP Tryz.prog 65 args σ K:=
 AT (cx:=D3) (code:=Tryz.f65.body.getD .skip) G0 (by kernel_rfl) Tryz.ntmps65 hl (AW D3 _ (Aw JS) _ [] (by kernel_rfl)) h
def LD:C:=(.seq (.reg [Qo 2 (.al [(.d (.str [])),.AO,.AO] false)] [0,2])
 (.seq (.reg [Qm 4 0,
 Qo 5 (.call 124 [(.t 4),(.c (.d (.int .i64 2)))]),
 Qo 6 (.bld [(.d (.str [])),.AO,.AO] [(0,1,(.t 5))]),
 Qo 3 (.al [(.d (.str [])),.AO,.AO] false),
 Qz 3 6 3] [0,2,3])
 (.seq (.reg [Qm 7 0,
 Qm 8 0,
 Qo 9 (.mkf 126 [(.t 8)] []),
 Qk 10 125 7 9,
 Qd 11 3 1,
 Qz 11 10 1] [0,2,3])
 (.seq (.reg [Qm 12 0,
 Qs 13 127 12 [61]] [0,2,3])
 (.seq (.reg [Qm 14 0,
 Qm 15 0,
 Qo 16 (.mkf 129 [(.t 15)] []),
 Qo 17 (.call 128 [(.t 14),(.c (.d (.str [124]))),(.t 16)]),
 Qd 18 3 2,
 Qz 18 17 1] [0,2,3])
 (.seq (.reg [Qm 19 0,
 Qs 20 127 19 [59]] [2,3])
 (.seq (.reg [Qo 21 (.ldl (.t 3) (some 3)),
 Qz 2 21 3] [2])
 .ret)))))))
noncomputable def EO:Cx:=⟨Tryz.prog,66,Tryz.f66,22,[300021],[],[.c 2 (some 3)]⟩
theorem LZ:Good EO:=⟨Tryz.func66,by kernel_rfl⟩
theorem Rz:EO.rs=[.c 2 (some 3)]:=rfl
theorem Sj (hl:args.length≤22) (h:Run EO K [.code LD] (Ak args) E σ):AP Tryz.prog 66 args σ K:=
 AT (cx:=EO) (code:=Tryz.f66.body.getD .skip) LZ (by kernel_rfl) Tryz.ntmps66 hl (AW EO _ (Aw LD) _ [] (by kernel_rfl)) h
def MX:C:=(.seq (.reg [Qo 2 (.al [(.d (.str [])),.AO,(.d (.int .i64 0)),(.d (.str [])),(.d (.int .i64 0)),.AO,.AO,.AO] false)] [0,2])
 (.seq (.reg [Qm 4 0,
 Qc 5 126 4,
 Qo 6 (.bld [(.d (.str [])),.AO,(.d (.int .i64 0)),(.d (.str [])),(.d (.int .i64 0)),.AO,.AO,.AO] [(0,1,(.t 5))]),
 Qo 3 (.al [(.d (.str [])),.AO,(.d (.int .i64 0)),(.d (.str [])),(.d (.int .i64 0)),.AO,.AO,.AO] false),
 Qz 3 6 8] [0,2,3])
 (.seq (.reg [Qm 7 0,
 Qs 8 127 7 [40]] [0,2,3])
 (.seq (.reg [Qm 9 0,
 Qm 10 0,
 Qo 11 (.mkf 126 [(.t 10)] []),
 Qk 12 130 9 11,
 Qd 13 3 1,
 Qz 13 12 1] [0,2,3])
 (.seq (.reg [Qm 14 0,
 Qs 15 127 14 [61]] [0,2,3])
 (.seq (.reg [Qm 16 0,
 Qc 17 131 16,
 Qd 18 3 2,
 Qz 18 17 6] [0,2,3])
 (.seq (.reg [Qm 19 0,
 Qs 20 127 19 [59]] [2,3])
 (.seq (.reg [Qo 21 (.ldl (.t 3) (some 8)),
 Qz 2 21 8] [2])
 .ret))))))))
noncomputable def Ef:Cx:=⟨Tryz.prog,67,Tryz.f67,22,[300021],[],[.c 2 (some 8)]⟩
theorem M4:Good Ef:=⟨Tryz.func67,by kernel_rfl⟩
theorem TL:Ef.rs=[.c 2 (some 8)]:=rfl
theorem Tu (hl:args.length≤22) (h:Run Ef K [.code MX] (Ak args) E σ):AP Tryz.prog 67 args σ K:=
 AT (cx:=Ef) (code:=Tryz.f67.body.getD .skip) M4 (by kernel_rfl) Tryz.ntmps67 hl (AW Ef _ (Aw MX) _ [] (by kernel_rfl)) h
def LG:C:=(.seq (.seq (.reg [Qm 2 0,
 Qo 3 (.nck (.t 2)),
 Qd 4 3 2,
 Qo 5 (.ld (.t 4) none),
 Qo 6 (.un .not (.t 5))] [0,6])
 (.cond (.t 6) (.reg [Qm 7 0,
 Qm 8 0,
 Qm 9 0,
 Qc 10 64 9,
 Qo 11 (.fd (.t 10) 2 none),
 Qo 12 (.nck (.t 7)),
 Qd 13 12 2,
 ⟨none,.st (.t 13) (.c (.d (.bool true))) 1,none⟩,
 Qo 14 (.nck (.t 8)),
 Qd 15 14 3,
 Qz 15 11 1] [0])
 .skip))
 (.reg [Qm 16 0,
 Qm 17 0,
 Qo 18 (.nck (.t 17)),
 Qd 19 18 0,
 Qo 20 (.ld (.t 19) none),
 Qo 21 (.len (.t 20)),
 Qo 22 (.bin .sub (.t 21) (.c (.d (.int .i64 1)))),
 Qo 23 (.nck (.t 16)),
 Qd 24 23 1,
 Qz 24 22 1] []))
noncomputable def ER:Cx:=⟨Tryz.prog,68,Tryz.f68,25,[],[],[]⟩
theorem H0:Good ER:=⟨Tryz.func68,by kernel_rfl⟩
theorem SB:ER.rs=[]:=rfl
theorem Sl (hl:args.length≤25) (h:Run ER K [.code LG] (Ak args) E σ):AP Tryz.prog 68 args σ K:=
 AT (cx:=ER) (code:=Tryz.f68.body.getD .skip) H0 (by kernel_rfl) Tryz.ntmps68 hl (AW ER _ (Aw LG) _ [] (by kernel_rfl)) h
def KE:C:=(.seq (.reg [Qo 2 (.mv (.c (.d (.str []))))] [0])
 (.seq (.seq (.reg [Qm 3 0] [3])
 (.block 0 (.seq (.reg [Qe 5 3 1,
 Qm 4 5] [3,4])
 (.cond (.t 4) (.seq (.reg [Qo 2 (.mv (.c (.d (.str [43]))))] [2])
 .ret)
 (.seq (.reg [Qe 7 3 2,
 Qm 6 7] [3,6])
 (.cond (.t 6) (.seq (.reg [Qo 2 (.mv (.c (.d (.str [45]))))] [2])
 .ret)
 (.seq (.reg [Qe 9 3 3,
 Qm 8 9] [3,8])
 (.cond (.t 8) (.seq (.reg [Qo 2 (.mv (.c (.d (.str [42]))))] [2])
 .ret)
 (.seq (.reg [Qe 11 3 4,
 Qm 10 11] [3,10])
 (.cond (.t 10) (.seq (.reg [Qo 2 (.mv (.c (.d (.str [47]))))] [2])
 .ret)
 (.seq (.reg [Qe 13 3 5,
 Qm 12 13] [3,12])
 (.cond (.t 12) (.seq (.reg [Qo 2 (.mv (.c (.d (.str [37]))))] [2])
 .ret)
 (.seq (.reg [Qe 15 3 6,
 Qm 14 15] [3,14])
 (.cond (.t 14) (.seq (.reg [Qo 2 (.mv (.c (.d (.str [60]))))] [2])
 .ret)
 (.seq (.reg [Qe 17 3 7,
 Qm 16 17] [16])
 (.cond (.t 16) (.seq (.reg [Qo 2 (.mv (.c (.d (.str [60,61]))))] [2])
 .ret)
 .skip))))))))))))))))
 (.seq (.reg [Qo 2 (.mv (.c (.d (.str [61,61]))))] [2])
 .ret)))
noncomputable def Di:Cx:=⟨Tryz.prog,91,Tryz.f91,18,[],[],[.t 2]⟩
theorem KR:Good Di:=⟨Tryz.func91,by kernel_rfl⟩
theorem Qj:Di.rs=[.t 2]:=rfl
theorem Rk (hl:args.length≤18) (h:Run Di K [.code KE] (Ak args) E σ):AP Tryz.prog 91 args σ K:=
 AT (cx:=Di) (code:=Tryz.f91.body.getD .skip) KR (by kernel_rfl) Tryz.ntmps91 hl (AW Di _ (Aw KE) _ [] (by kernel_rfl)) h
def LL:C:=(.seq (.reg [Qo 4 (.mv (.c (.d (.str []))))] [0,1])
 (.seq (.reg [Qm 6 0,
 Qc 7 64 6,
 Qo 5 (.al [(.d (.int .i64 0)),(.d (.str [])),(.d (.int .i64 0))] false),
 Qz 5 7 3] [0,1,5])
 (.seq (.seq (.reg [Qd 8 5 0,
 Ql 9 8,
 Qm 10 1,
 Qo 11 (.bin .neq (.t 9) (.t 10))] [0,5,11])
 (.cond (.t 11) (.seq (.reg [Qm 12 0,
 Qc 13 68 12] [])
 (.seq (.reg [Qo 4 (.mv (.c (.d (.str []))))] [4])
 .ret))
 .skip))
 (.seq (.reg [Qm 14 0,
 Qo 15 (.nck (.t 14)),
 Qd 16 15 1,
 Qo 17 (.ld (.t 16) none),
 Qp 18 17 1,
 Qo 19 (.nck (.t 14)),
 Qd 20 19 1,
 Qz 20 18 1] [5])
 (.seq (.reg [Qd 21 5 1,
 Ql 22 21,
 Qm 4 22] [4])
 .ret)))))
noncomputable def EW:Cx:=⟨Tryz.prog,124,Tryz.f124,23,[300009,300022],[],[.t 4]⟩
theorem H2:Good EW:=⟨Tryz.func124,by kernel_rfl⟩
theorem SG:EW.rs=[.t 4]:=rfl
theorem Sq (hl:args.length≤23) (h:Run EW K [.code LL] (Ak args) E σ):AP Tryz.prog 124 args σ K:=
 AT (cx:=EW) (code:=Tryz.f124.body.getD .skip) H2 (by kernel_rfl) Tryz.ntmps124 hl (AW EW _ (Aw LL) _ [] (by kernel_rfl)) h
def JR:C:=(.seq (.reg [Qo 4 (.mv (.c .AO))] [0,1])
 (.seq (.seq (.reg [Qm 5 0,
 Qs 6 65 5 [40],
 Qo 7 (.un .not (.t 6))] [0,1,7])
 (.cond (.t 7) (.seq (.reg [Qo 4 (.mv (.c .AO))] [4])
 .ret)
 .skip))
 (.seq (.reg [Qm 8 0,
 Qm 9 1,
 Qk 10 166 8 9,
 Qm 4 10] [4])
 .ret)))
noncomputable def D2:Cx:=⟨Tryz.prog,125,Tryz.f125,11,[],[],[.t 4]⟩
theorem GZ:Good D2:=⟨Tryz.func125,by kernel_rfl⟩
theorem P9:D2.rs=[.t 4]:=rfl
theorem QV (hl:args.length≤11) (h:Run D2 K [.code JR] (Ak args) E σ):AP Tryz.prog 125 args σ K:=
 AT (cx:=D2) (code:=Tryz.f125.body.getD .skip) GZ (by kernel_rfl) Tryz.ntmps125 hl (AW D2 _ (Aw JR) _ [] (by kernel_rfl)) h
def LH:C:=(.seq (.reg [Qo 2 (.mv (.c (.d (.str []))))] [0])
 (.seq (.reg [Qm 3 0,
 Qo 4 (.call 124 [(.t 3),(.c (.d (.int .i64 1)))]),
 Qm 2 4] [2])
 .ret))
noncomputable def ES:Cx:=⟨Tryz.prog,126,Tryz.f126,5,[],[],[.t 2]⟩
theorem L1:Good ES:=⟨Tryz.func126,by kernel_rfl⟩
theorem SC:ES.rs=[.t 2]:=rfl
theorem Sm (hl:args.length≤5) (h:Run ES K [.code LH] (Ak args) E σ):AP Tryz.prog 126 args σ K:=
 AT (cx:=ES) (code:=Tryz.f126.body.getD .skip) L1 (by kernel_rfl) Tryz.ntmps126 hl (AW ES _ (Aw LH) _ [] (by kernel_rfl)) h
def JU:C:=(.seq (.reg [Qm 4 0,
 Qm 5 1,
 Qk 6 65 4 5,
 Qo 7 (.un .not (.t 6))] [0,7])
 (.cond (.t 7) (.reg [Qm 8 0,
 Qc 9 68 8] [])
 .skip))
noncomputable def D4:Cx:=⟨Tryz.prog,127,Tryz.f127,10,[],[],[]⟩
theorem G1:Good D4:=⟨Tryz.func127,by kernel_rfl⟩
theorem Pc:D4.rs=[]:=rfl
theorem QW (hl:args.length≤10) (h:Run D4 K [.code JU] (Ak args) E σ):AP Tryz.prog 127 args σ K:=
 AT (cx:=D4) (code:=Tryz.f127.body.getD .skip) G1 (by kernel_rfl) Tryz.ntmps127 hl (AW D4 _ (Aw JU) _ [] (by kernel_rfl)) h
def LA:C:=(.seq (.seq (.reg [Qm 11 0,
 Qm 12 1,
 Qk 13 65 11 12] [0,1,2,7,13])
 (.cond (.t 13) .skip
 (.exit 0)))
 (.block 1 (.reg [Qm 14 7,
 Qm 15 2,
 Qo 16 (.E2 (.t 15) []),
 Qo 17 (.bsl 2 1 [(.d (.str [])),.AO] [(0,2,(.t 16))]),
 Qo 18 (.app 72 2 40 (.t 14) (.t 17)),
 Qm 7 18] [0,1,2,7])))
def HO:C:=(.seq (.reg [Qo 6 (.mv (.c .AO))] [0,1,2])
 (.seq (.reg [Qm 8 2,
 Qo 9 (.E2 (.t 8) []),
 Qo 10 (.Jr 72 2 1 [(.d (.str [])),.AO] [(0,2,(.t 9))]),
 Qm 7 10] [0,1,2,7])
 (.seq (.block 0 (.loop LA))
 (.seq (.reg [Qm 19 7,
 Qm 6 19] [6])
 .ret))))
noncomputable def C9:Cx:=⟨Tryz.prog,128,Tryz.f128,20,[10],[],[.t 6]⟩
theorem HW:Good C9:=⟨Tryz.func128,by kernel_rfl⟩
theorem Ms:C9.rs=[.t 6]:=rfl
theorem NX (hl:args.length≤20) (h:Run C9 K [.code HO] (Ak args) E σ):AP Tryz.prog 128 args σ K:=
 AT (cx:=C9) (code:=Tryz.f128.body.getD .skip) HW (by kernel_rfl) Tryz.ntmps128 hl (AW C9 _ (Aw HO) _ [] (by kernel_rfl)) h
def MW:C:=(.seq (.reg [Qo 2 (.al [(.d (.str [])),.AO] false)] [0,2])
 (.seq (.reg [Qm 4 0,
 Qo 5 (.call 124 [(.t 4),(.c (.d (.int .i64 2)))]),
 Qo 6 (.bld [(.d (.str [])),.AO] [(0,1,(.t 5))]),
 Qo 3 (.al [(.d (.str [])),.AO] false),
 Qz 3 6 2] [0,2,3])
 (.seq (.reg [Qm 7 0,
 Qm 8 0,
 Qo 9 (.mkf 168 [(.t 8)] []),
 Qk 10 167 7 9,
 Qd 11 3 1,
 Qz 11 10 1] [2,3])
 (.seq (.reg [Qo 12 (.ldl (.t 3) (some 2)),
 Qz 2 12 2] [2])
 .ret))))
noncomputable def Ee:Cx:=⟨Tryz.prog,129,Tryz.f129,13,[300012],[],[.c 2 (some 2)]⟩
theorem M3:Good Ee:=⟨Tryz.func129,by kernel_rfl⟩
theorem TK:Ee.rs=[.c 2 (some 2)]:=rfl
theorem Tt (hl:args.length≤13) (h:Run Ee K [.code MW] (Ak args) E σ):AP Tryz.prog 129 args σ K:=
 AT (cx:=Ee) (code:=Tryz.f129.body.getD .skip) M3 (by kernel_rfl) Tryz.ntmps129 hl (AW Ee _ (Aw MW) _ [] (by kernel_rfl)) h
def JM:C:=(.seq (.reg [Qo 4 (.mv (.c .AO))] [0,1])
 (.seq (.seq (.reg [Qm 5 0,
 Qs 6 65 5 [41]] [0,1,6])
 (.cond (.t 6) (.seq (.reg [Qo 4 (.mv (.c .AO))] [4])
 .ret)
 .skip))
 (.seq (.reg [Qm 7 0,
 Qm 8 1,
 Qk 9 166 7 8,
 Qm 4 9] [4])
 .ret)))
noncomputable def DX:Cx:=⟨Tryz.prog,130,Tryz.f130,10,[],[],[.t 4]⟩
theorem GX:Good DX:=⟨Tryz.func130,by kernel_rfl⟩
theorem P4:DX.rs=[.t 4]:=rfl
theorem QP (hl:args.length≤10) (h:Run DX K [.code JM] (Ak args) E σ):AP Tryz.prog 130 args σ K:=
 AT (cx:=DX) (code:=Tryz.f130.body.getD .skip) GX (by kernel_rfl) Tryz.ntmps130 hl (AW DX _ (Aw JM) _ [] (by kernel_rfl)) h
def LF:C:=(.seq (.reg [Qo 2 (.al [(.d (.int .i64 0)),(.d (.str [])),(.d (.int .i64 0)),.AO,.AO,.AO] false)] [0,2])
 (.seq (.block 0 (.seq (.reg [Qm 11 0,
 Qs 12 65 11 [108,101,116],
 Qm 10 12] [0,2,10])
 (.cond (.t 10) (.seq (.reg [Qm 13 0,
 Qc 14 169 13,
 Qz 2 14 6] [2])
 .ret)
 (.seq (.reg [Qm 16 0,
 Qs 17 65 16 [105,102],
 Qm 15 17] [0,2,15])
 (.cond (.t 15) (.seq (.reg [Qm 18 0,
 Qc 19 131 18,
 Qo 3 (.al [(.d (.int .i64 0)),(.d (.str [])),(.d (.int .i64 0)),.AO,.AO,.AO] false),
 Qz 3 19 6] [0,2,3])
 (.seq (.reg [Qm 20 0,
 Qs 21 127 20 [116,104,101,110]] [0,2,3])
 (.seq (.reg [Qm 22 0,
 Qc 23 131 22,
 Qo 4 (.al [(.d (.int .i64 0)),(.d (.str [])),(.d (.int .i64 0)),.AO,.AO,.AO] false),
 Qz 4 23 6] [0,2,3,4])
 (.seq (.reg [Qm 24 0,
 Qs 25 127 24 [101,108,115,101]] [0,2,3,4])
 (.seq (.reg [Qo 26 (.ldl (.t 3) (some 6)),
 Qo 27 (.ldl (.t 4) (some 6)),
 Qm 28 0,
 Qc 29 131 28,
 Qo 30 (.bsl 6 3 [(.d (.int .i64 0)),(.d (.str [])),(.d (.int .i64 0)),.AO,.AO,.AO,(.d (.int .i64 0)),(.d (.str [])),(.d (.int .i64 0)),.AO,.AO,.AO,(.d (.int .i64 0)),(.d (.str [])),(.d (.int .i64 0)),.AO,.AO,.AO] [(0,6,(.t 26)),(6,6,(.t 27)),(12,6,(.t 29))]),
 Qo 31 (.bld [(.d (.int .i64 0)),(.d (.str [])),(.d (.int .i64 0)),.AO,.AO,.AO] [(0,1,(.c (.d (.int .i64 9)))),(4,1,(.t 30))]),
 Qz 2 31 6] [2])
 .ret)))))
 (.seq (.reg [Qm 33 0,
 Qs 34 65 33 [109,97,116,99,104],
 Qm 32 34] [0,2,32])
 (.cond (.t 32) (.seq (.reg [Qm 35 0,
 Qc 36 131 35,
 Qo 37 (.bsl 6 1 [(.d (.int .i64 0)),(.d (.str [])),(.d (.int .i64 0)),.AO,.AO,.AO] [(0,6,(.t 36))]),
 Qo 38 (.bld [(.d (.int .i64 0)),(.d (.str [])),(.d (.int .i64 0)),.AO,.AO,.AO] [(0,1,(.c (.d (.int .i64 10)))),(4,1,(.t 37))]),
 Qo 5 (.al [(.d (.int .i64 0)),(.d (.str [])),(.d (.int .i64 0)),.AO,.AO,.AO] false),
 Qz 5 38 6] [0,2,5])
 (.seq (.reg [Qm 39 0,
 Qs 40 127 39 [119,105,116,104]] [0,2,5])
 (.seq (.reg [Qm 41 0,
 Qm 42 0,
 Qo 43 (.mkf 171 [(.t 42)] []),
 Qo 44 (.call 170 [(.t 41),(.c (.d (.str [124]))),(.t 43)]),
 Qd 45 5 5,
 Qz 45 44 1] [0,2,5])
 (.seq (.reg [Qm 46 0,
 Qs 47 127 46 [101,110,100]] [2,5])
 (.seq (.reg [Qo 48 (.ldl (.t 5) (some 6)),
 Qz 2 48 6] [2])
 .ret)))))
 (.seq (.reg [Qm 50 0,
 Qs 51 65 50 [102,110],
 Qm 49 51] [0,2,49])
 (.cond (.t 49) (.seq (.reg [Qm 52 0,
 Qs 53 127 52 [40]] [0,2])
 (.seq (.reg [Qm 54 0,
 Qm 55 0,
 Qo 56 (.mkf 126 [(.t 55)] []),
 Qk 57 130 54 56,
 Qo 58 (.bld [(.d (.int .i64 0)),(.d (.str [])),(.d (.int .i64 0)),.AO,.AO,.AO] [(0,1,(.c (.d (.int .i64 11)))),(3,1,(.t 57))]),
 Qo 6 (.al [(.d (.int .i64 0)),(.d (.str [])),(.d (.int .i64 0)),.AO,.AO,.AO] false),
 Qz 6 58 6] [0,2,6])
 (.seq (.reg [Qm 59 0,
 Qs 60 127 59 [45,62]] [0,2,6])
 (.seq (.reg [Qm 61 0,
 Qc 62 131 61,
 Qo 63 (.bsl 6 1 [(.d (.int .i64 0)),(.d (.str [])),(.d (.int .i64 0)),.AO,.AO,.AO] [(0,6,(.t 62))]),
 Qd 64 6 4,
 Qz 64 63 1] [2,6])
 (.seq (.reg [Qo 65 (.ldl (.t 6) (some 6)),
 Qz 2 65 6] [2])
 .ret)))))
 (.seq (.reg [Qm 67 0,
 Qs 68 65 67 [116,114,121],
 Qm 66 68] [0,2,66])
 (.cond (.t 66) (.seq (.reg [Qm 69 0,
 Qc 70 131 69,
 Qo 7 (.al [(.d (.int .i64 0)),(.d (.str [])),(.d (.int .i64 0)),.AO,.AO,.AO] false),
 Qz 7 70 6] [0,2,7])
 (.seq (.reg [Qm 71 0,
 Qs 72 127 71 [99,97,116,99,104]] [0,2,7])
 (.seq (.reg [Qm 73 0,
 Qc 74 172 73,
 Qm 8 74] [0,2,7,8])
 (.seq (.reg [Qm 75 0,
 Qs 76 127 75 [45,62]] [0,2,7,8])
 (.seq (.reg [Qm 77 0,
 Qc 78 131 77,
 Qo 9 (.al [(.d (.int .i64 0)),(.d (.str [])),(.d (.int .i64 0)),.AO,.AO,.AO] false),
 Qz 9 78 6] [0,2,7,8,9])
 (.seq (.reg [Qm 79 0,
 Qs 80 127 79 [101,110,100]] [2,7,8,9])
 (.seq (.reg [Qm 81 8,
 Qo 82 (.ldl (.t 7) (some 6)),
 Qo 83 (.ldl (.t 9) (some 6)),
 Qo 84 (.bsl 6 2 [(.d (.int .i64 0)),(.d (.str [])),(.d (.int .i64 0)),.AO,.AO,.AO,(.d (.int .i64 0)),(.d (.str [])),(.d (.int .i64 0)),.AO,.AO,.AO] [(0,6,(.t 82)),(6,6,(.t 83))]),
 Qo 85 (.bld [(.d (.int .i64 0)),(.d (.str [])),(.d (.int .i64 0)),.AO,.AO,.AO] [(0,1,(.c (.d (.int .i64 17)))),(1,1,(.t 81)),(4,1,(.t 84))]),
 Qz 2 85 6] [2])
 .ret)))))))
 .skip)))))))))))
 (.seq (.reg [Qm 86 0,
 Qc 87 173 86,
 Qz 2 87 6] [2])
 .ret)))
noncomputable def EP:Cx:=⟨Tryz.prog,131,Tryz.f131,88,[300026,300027,300048,300065,300082,300083],[],[.c 2 (some 6)]⟩
theorem C5:Good EP:=⟨Tryz.func131,by kernel_rfl⟩
theorem SA:EP.rs=[.c 2 (some 6)]:=rfl
theorem Sk (hl:args.length≤88) (h:Run EP K [.code LF] (Ak args) E σ):AP Tryz.prog 131 args σ K:=
 AT (cx:=EP) (code:=Tryz.f131.body.getD .skip) C5 (by kernel_rfl) Tryz.ntmps131 hl (AW EP _ (Aw LF) _ [] (by kernel_rfl)) h
def JQ:C:=(.seq (.reg [Qi 2 0] [0])
 (.seq (.seq (.reg [Qm 3 0] [3])
 (.block 0 (.seq (.seq (.reg [Qe 5 3 1,
 Qm 4 5] [3,4])
 (.cond (.t 4) .skip
 (.reg [Qe 6 3 2,
 Qm 4 6] [3,4])))
 (.cond (.t 4) (.seq (.reg [Qi 2 2] [2])
 .ret)
 (.seq (.seq (.reg [Qe 8 3 3,
 Qm 7 8] [3,7])
 (.cond (.t 7) .skip
 (.seq (.reg [Qe 9 3 4,
 Qm 7 9] [3,7])
 (.cond (.t 7) .skip
 (.reg [Qe 10 3 5,
 Qm 7 10] [7])))))
 (.cond (.t 7) (.seq (.reg [Qi 2 3] [2])
 .ret)
 .skip))))))
 (.seq (.reg [Qi 2 1] [2])
 .ret)))
noncomputable def D1:Cx:=⟨Tryz.prog,138,Tryz.f138,11,[],[],[.t 2]⟩
theorem GY:Good D1:=⟨Tryz.func138,by kernel_rfl⟩
theorem P8:D1.rs=[.t 2]:=rfl
theorem QU (hl:args.length≤11) (h:Run D1 K [.code JQ] (Ak args) E σ):AP Tryz.prog 138 args σ K:=
 AT (cx:=D1) (code:=Tryz.f138.body.getD .skip) GY (by kernel_rfl) Tryz.ntmps138 hl (AW D1 _ (Aw JQ) _ [] (by kernel_rfl)) h
def JO:C:=(.seq (.reg [Qo 4 (.mv (.c .AO))] [0,1])
 (.seq (.reg [Qm 6 0,
 Qm 7 1,
 Qo 8 (.call 182 [(.t 6),(.c (.d (.str [44]))),(.t 7)]),
 Qm 5 8] [0,5])
 (.seq (.reg [Qm 9 0,
 Qs 10 127 9 [41]] [5])
 (.seq (.reg [Qm 11 5,
 Qm 4 11] [4])
 .ret))))
noncomputable def DZ:Cx:=⟨Tryz.prog,166,Tryz.f166,12,[],[],[.t 4]⟩
theorem J5:Good DZ:=⟨Tryz.func166,by kernel_rfl⟩
theorem P6:DZ.rs=[.t 4]:=rfl
theorem QR (hl:args.length≤12) (h:Run DZ K [.code JO] (Ak args) E σ):AP Tryz.prog 166 args σ K:=
 AT (cx:=DZ) (code:=Tryz.f166.body.getD .skip) J5 (by kernel_rfl) Tryz.ntmps166 hl (AW DZ _ (Aw JO) _ [] (by kernel_rfl)) h
def Gb:C:=(.seq (.reg [Qo 4 (.mv (.c .AO))] [0,1])
 (.seq (.seq (.reg [Qm 5 0,
 Qs 6 65 5 [40],
 Qo 7 (.un .not (.t 6))] [0,1,7])
 (.cond (.t 7) (.seq (.reg [Qo 4 (.mv (.c .AO))] [4])
 .ret)
 .skip))
 (.seq (.reg [Qm 8 0,
 Qm 9 1,
 Qk 10 183 8 9,
 Qm 4 10] [4])
 .ret)))
noncomputable def CK:Cx:=⟨Tryz.prog,167,Tryz.f167,11,[],[],[.t 4]⟩
theorem E6:Good CK:=⟨Tryz.func167,by kernel_rfl⟩
theorem Ll:CK.rs=[.t 4]:=rfl
theorem MI (hl:args.length≤11) (h:Run CK K [.code Gb] (Ak args) E σ):AP Tryz.prog 167 args σ K:=
 AT (cx:=CK) (code:=Tryz.f167.body.getD .skip) E6 (by kernel_rfl) Tryz.ntmps167 hl (AW CK _ (Aw Gb) _ [] (by kernel_rfl)) h
def Tp:C:=(.seq (.reg [Qo 2 (.al [(.d (.int .i64 0)),(.d (.str [])),.AO] false)] [0,2])
 (.seq (.seq (.reg [Qm 7 0,
 Qc 8 64 7,
 Qo 3 (.al [(.d (.int .i64 0)),(.d (.str [])),(.d (.int .i64 0))] false),
 Qz 3 8 3] [0,2,3])
 (.block 0 (.seq (.reg [Qd 10 3 0,
 Ql 11 10,
 Qe 12 11 1,
 Qm 9 12] [0,2,3,9])
 (.cond (.t 9) (.seq (.reg [Qm 13 0,
 Qc 14 126 13,
 Qo 15 (.bld [(.d (.int .i64 0)),(.d (.str [])),.AO] [(0,1,(.c (.d (.int .i64 4)))),(1,1,(.t 14))]),
 Qz 2 15 3] [2])
 .ret)
 (.seq (.reg [Qd 17 3 0,
 Ql 18 17,
 Qe 19 18 2,
 Qm 16 19] [0,2,16])
 (.cond (.t 16) (.seq (.reg [Qm 20 0,
 Qo 21 (.call 124 [(.t 20),(.c (.d (.int .i64 2)))]),
 Qo 22 (.bld [(.d (.int .i64 0)),(.d (.str [])),.AO] [(0,1,(.c (.d (.int .i64 5)))),(1,1,(.t 21))]),
 Qo 4 (.al [(.d (.int .i64 0)),(.d (.str [])),.AO] false),
 Qz 4 22 3] [0,2,4])
 (.seq (.reg [Qm 23 0,
 Qm 24 0,
 Qo 25 (.mkf 168 [(.t 24)] []),
 Qk 26 167 23 25,
 Qd 27 4 2,
 Qz 27 26 1] [2,4])
 (.seq (.reg [Qo 28 (.ldl (.t 4) (some 3)),
 Qz 2 28 3] [2])
 .ret)))
 (.seq (.reg [Qm 30 0,
 Qs 31 65 30 [105,110,116],
 Qm 29 31] [0,2,29])
 (.cond (.t 29) (.seq (.reg [Qo 32 (.bld [(.d (.int .i64 0)),(.d (.str [])),.AO] [(0,1,(.c (.d (.int .i64 1))))]),
 Qz 2 32 3] [2])
 .ret)
 (.seq (.reg [Qm 34 0,
 Qs 35 65 34 [98,111,111,108],
 Qm 33 35] [0,2,33])
 (.cond (.t 33) (.seq (.reg [Qo 36 (.bld [(.d (.int .i64 0)),(.d (.str [])),.AO] [(0,1,(.c (.d (.int .i64 2))))]),
 Qz 2 36 3] [2])
 .ret)
 (.seq (.reg [Qm 38 0,
 Qs 39 65 38 [117,110,105,116],
 Qm 37 39] [0,2,37])
 (.cond (.t 37) (.seq (.reg [Qo 40 (.bld [(.d (.int .i64 0)),(.d (.str [])),.AO] [(0,1,(.c (.d (.int .i64 3))))]),
 Qz 2 40 3] [2])
 .ret)
 (.seq (.reg [Qm 42 0,
 Qs 43 65 42 [97,114,114,97,121],
 Qm 41 43] [0,2,41])
 (.cond (.t 41) (.seq (.reg [Qm 44 0,
 Qo 45 (.call 184 [(.t 44),(.c (.d (.int .i64 7)))]),
 Qz 2 45 3] [2])
 .ret)
 (.seq (.reg [Qm 47 0,
 Qs 48 65 47 [114,101,102],
 Qm 46 48] [0,2,46])
 (.cond (.t 46) (.seq (.reg [Qm 49 0,
 Qo 50 (.call 184 [(.t 49),(.c (.d (.int .i64 8)))]),
 Qz 2 50 3] [2])
 .ret)
 (.seq (.reg [Qm 52 0,
 Qs 53 65 52 [40],
 Qm 51 53] [0,2,51])
 (.cond (.t 51) (.seq (.reg [Qm 54 0,
 Qc 55 168 54,
 Qo 5 (.al [(.d (.int .i64 0)),(.d (.str [])),.AO] false),
 Qz 5 55 3] [0,2,5])
 (.seq (.reg [Qm 56 0,
 Qs 57 127 56 [44]] [0,2,5])
 (.seq (.Q8 (.one (Qo 58 (.ldl (.t 5) (some 3)))
 (.one (Qm 60 0)
 (.one (Qm 61 0)
 (.one (Qo 62 (.mkf 168 [(.t 61)] []))
 (.alt (Qo 59 (.Jr 75 3 1 [(.d (.int .i64 0)),(.d (.str [])),.AO] [(0,3,(.t 58))]))
 (.one (Qk 63 183 60 62)
 (.one (Qo 64 (.app 75 3 48 (.t 59) (.t 63)))
 (.one (Qo 65 (.bld [(.d (.int .i64 0)),(.d (.str [])),.AO] [(0,1,(.c (.d (.int .i64 6)))),(2,1,(.t 64))]))
 (.one (Qz 2 65 3)
 .done))))
 (.alt (Qk 63 183 60 62)
 (.one (Qo 59 (.Jr 75 3 1 [(.d (.int .i64 0)),(.d (.str [])),.AO] [(0,3,(.t 58))]))
 (.one (Qo 64 (.app 75 3 48 (.t 59) (.t 63)))
 (.one (Qo 65 (.bld [(.d (.int .i64 0)),(.d (.str [])),.AO] [(0,1,(.c (.d (.int .i64 6)))),(2,1,(.t 64))]))
 (.one (Qz 2 65 3)
 .done))))
 .done)))))) [2])
 .ret)))
 (.seq (.reg [Qm 67 0,
 Qs 68 65 67 [102,110],
 Qm 66 68] [0,2,66])
 (.cond (.t 66) (.seq (.reg [Qm 69 0,
 Qs 70 127 69 [40]] [0,2])
 (.seq (.reg [Qm 71 0,
 Qm 72 0,
 Qo 73 (.mkf 168 [(.t 72)] []),
 Qk 74 185 71 73,
 Qm 6 74] [0,2,6])
 (.seq (.reg [Qm 75 0,
 Qs 76 127 75 [45,62]] [0,2,6])
 (.seq (.reg [Qm 77 6,
 Qm 78 0,
 Qc 79 168 78,
 Qo 80 (.bsl 3 1 [(.d (.int .i64 0)),(.d (.str [])),.AO] [(0,3,(.t 79))]),
 Qo 81 (.app 75 3 48 (.t 77) (.t 80)),
 Qo 82 (.bld [(.d (.int .i64 0)),(.d (.str [])),.AO] [(0,1,(.c (.d (.int .i64 9)))),(2,1,(.t 81))]),
 Qz 2 82 3] [2])
 .ret))))
 .skip))))))))))))))))))))
 (.seq (.reg [Qm 83 0,
 Qc 84 68 83] [2])
 (.seq (.reg [Qo 85 (.bld [(.d (.int .i64 0)),(.d (.str [])),.AO] []),
 Qz 2 85 3] [2])
 .ret))))
def UK:List (List Nat×PT):=[([0,2],.done),([0,2,3],.done),([0,2,3,9],.done),([2],.done),([0,2,16],.done),([0,2,4],.done),([2,4],.done),([2],.done),([0,2,29],.done),([2],.done),([0,2,33],.done),([2],.done),([0,2,37],.done),([2],.done),([0,2,41],.done),([2],.done),([0,2,46],.done),([2],.done),([0,2,51],.done),([0,2,5],.done),([0,2,5],.done),([2],(.one 0 (.one 2 (.one 3 (.one 4 (.alt 1 (.one 5 (.one 6 (.one 7 (.one 8 .done)))) (.alt 5 (.one 1 (.one 6 (.one 7 (.one 8 .done)))) .done))))))),([0,2,66],.done),([0,2],.done),([0,2,6],.done),([0,2,6],.done),([2],.done),([2],.done),([2],.done)]
noncomputable def Ei:Cx:=⟨Tryz.prog,168,Tryz.f168,86,[59,300011,300018,300028,300058],[],[.c 2 (some 3)]⟩
theorem BT:Good Ei:=⟨Tryz.func168,by kernel_rfl⟩
theorem TO:Ei.rs=[.c 2 (some 3)]:=rfl
theorem Tx (hl:args.length≤86) (h:Run Ei K [.code Tp] (Ak args) E σ):AP Tryz.prog 168 args σ K:=
 AT (cx:=Ei) (code:=Tryz.f168.body.getD .skip) BT (by kernel_rfl) Tryz.ntmps168 hl (AW Ei _ UK _ [] (by kernel_rfl)) h
def MY:C:=(.seq (.reg [Qo 2 (.al [(.d (.int .i64 0)),(.d (.str [])),(.d (.int .i64 0)),.AO,.AO,.AO] false)] [0,2])
 (.seq (.reg [Qo 3 (.al [(.d (.int .i64 0)),(.d (.str [])),(.d (.int .i64 0)),.AO,.AO,.AO] false)] [0,2,3])
 (.seq (.seq (.reg [Qm 6 0,
 Qs 7 65 6 [40]] [0,2,3,7])
 (.cond (.t 7) (.seq (.reg [Qm 8 0,
 Qc 9 172 8,
 Qm 4 9] [0,2,3,4])
 (.seq (.reg [Qm 10 0,
 Qs 11 127 10 [44]] [0,2,3,4])
 (.reg [Qm 12 4,
 Qo 13 (.Jr 9 1 1 [(.d (.str []))] [(0,1,(.t 12))]),
 Qm 14 0,
 Qm 15 0,
 Qo 16 (.mkf 172 [(.t 15)] []),
 Qk 17 166 14 16,
 Qo 18 (.app 9 1 16 (.t 13) (.t 17)),
 Qd 19 3 0,
 ⟨none,.st (.t 19) (.c (.d (.int .i64 8))) 1,none⟩,
 Qd 20 3 3,
 Qz 20 18 1] [0,2,3])))
 (.reg [Qm 21 0,
 Qc 22 172 21,
 Qd 23 3 0,
 ⟨none,.st (.t 23) (.c (.d (.int .i64 7))) 1,none⟩,
 Qd 24 3 1,
 Qz 24 22 1] [0,2,3])))
 (.seq (.reg [Qm 25 0,
 Qs 26 127 25 [61]] [0,2,3])
 (.seq (.reg [Qm 27 0,
 Qc 28 131 27,
 Qo 5 (.al [(.d (.int .i64 0)),(.d (.str [])),(.d (.int .i64 0)),.AO,.AO,.AO] false),
 Qz 5 28 6] [0,2,3,5])
 (.seq (.reg [Qm 29 0,
 Qs 30 127 29 [105,110]] [0,2,3,5])
 (.seq (.reg [Qo 31 (.ldl (.t 5) (some 6)),
 Qm 32 0,
 Qc 33 131 32,
 Qo 34 (.bsl 6 2 [(.d (.int .i64 0)),(.d (.str [])),(.d (.int .i64 0)),.AO,.AO,.AO,(.d (.int .i64 0)),(.d (.str [])),(.d (.int .i64 0)),.AO,.AO,.AO] [(0,6,(.t 31)),(6,6,(.t 33))]),
 Qd 35 3 4,
 Qz 35 34 1] [2,3])
 (.seq (.reg [Qo 36 (.ldl (.t 3) (some 6)),
 Qz 2 36 6] [2])
 .ret))))))))
noncomputable def Eg:Cx:=⟨Tryz.prog,169,Tryz.f169,37,[13,300031,300036],[],[.c 2 (some 6)]⟩
theorem Hy:Good Eg:=⟨Tryz.func169,by kernel_rfl⟩
theorem TM:Eg.rs=[.c 2 (some 6)]:=rfl
theorem Tv (hl:args.length≤37) (h:Run Eg K [.code MY] (Ak args) E σ):AP Tryz.prog 169 args σ K:=
 AT (cx:=Eg) (code:=Tryz.f169.body.getD .skip) Hy (by kernel_rfl) Tryz.ntmps169 hl (AW Eg _ (Aw MY) _ [] (by kernel_rfl)) h
def No:C:=(.seq (.seq (.reg [Qm 11 0,
 Qm 12 1,
 Qk 13 65 11 12] [0,1,2,7,13])
 (.cond (.t 13) .skip
 (.exit 0)))
 (.block 1 (.reg [Qm 14 7,
 Qm 15 2,
 Qo 16 (.E2 (.t 15) []),
 Qo 17 (.bsl 8 1 [(.d (.str [])),.AO,(.d (.int .i64 0)),(.d (.str [])),(.d (.int .i64 0)),.AO,.AO,.AO] [(0,8,(.t 16))]),
 Qo 18 (.app 112 8 144 (.t 14) (.t 17)),
 Qm 7 18] [0,1,2,7])))
def JN:C:=(.seq (.reg [Qo 6 (.mv (.c .AO))] [0,1,2])
 (.seq (.reg [Qm 8 2,
 Qo 9 (.E2 (.t 8) []),
 Qo 10 (.Jr 112 8 1 [(.d (.str [])),.AO,(.d (.int .i64 0)),(.d (.str [])),(.d (.int .i64 0)),.AO,.AO,.AO] [(0,8,(.t 9))]),
 Qm 7 10] [0,1,2,7])
 (.seq (.block 0 (.loop No))
 (.seq (.reg [Qm 19 7,
 Qm 6 19] [6])
 .ret))))
noncomputable def DY:Cx:=⟨Tryz.prog,170,Tryz.f170,20,[10],[],[.t 6]⟩
theorem J4:Good DY:=⟨Tryz.func170,by kernel_rfl⟩
theorem P5:DY.rs=[.t 6]:=rfl
theorem QQ (hl:args.length≤20) (h:Run DY K [.code JN] (Ak args) E σ):AP Tryz.prog 170 args σ K:=
 AT (cx:=DY) (code:=Tryz.f170.body.getD .skip) J4 (by kernel_rfl) Tryz.ntmps170 hl (AW DY _ (Aw JN) _ [] (by kernel_rfl)) h
def MV:C:=(.seq (.reg [Qo 2 (.al [(.d (.str [])),.AO,(.d (.int .i64 0)),(.d (.str [])),(.d (.int .i64 0)),.AO,.AO,.AO] false)] [0,2])
 (.seq (.reg [Qm 4 0,
 Qo 5 (.call 124 [(.t 4),(.c (.d (.int .i64 2)))]),
 Qo 6 (.bld [(.d (.str [])),.AO,(.d (.int .i64 0)),(.d (.str [])),(.d (.int .i64 0)),.AO,.AO,.AO] [(0,1,(.t 5))]),
 Qo 3 (.al [(.d (.str [])),.AO,(.d (.int .i64 0)),(.d (.str [])),(.d (.int .i64 0)),.AO,.AO,.AO] false),
 Qz 3 6 8] [0,2,3])
 (.seq (.reg [Qm 7 0,
 Qm 8 0,
 Qo 9 (.mkf 172 [(.t 8)] []),
 Qk 10 125 7 9,
 Qd 11 3 1,
 Qz 11 10 1] [0,2,3])
 (.seq (.reg [Qm 12 0,
 Qs 13 127 12 [45,62]] [0,2,3])
 (.seq (.reg [Qm 14 0,
 Qc 15 131 14,
 Qd 16 3 2,
 Qz 16 15 6] [2,3])
 (.seq (.reg [Qo 17 (.ldl (.t 3) (some 8)),
 Qz 2 17 8] [2])
 .ret))))))
noncomputable def Ed:Cx:=⟨Tryz.prog,171,Tryz.f171,18,[300017],[],[.c 2 (some 8)]⟩
theorem M1:Good Ed:=⟨Tryz.func171,by kernel_rfl⟩
theorem TI:Ed.rs=[.c 2 (some 8)]:=rfl
theorem Tr (hl:args.length≤18) (h:Run Ed K [.code MV] (Ak args) E σ):AP Tryz.prog 171 args σ K:=
 AT (cx:=Ed) (code:=Tryz.f171.body.getD .skip) M1 (by kernel_rfl) Tryz.ntmps171 hl (AW Ed _ (Aw MV) _ [] (by kernel_rfl)) h
def LB:C:=(.seq (.reg [Qo 2 (.mv (.c (.d (.str []))))] [0])
 (.seq (.seq (.reg [Qm 3 0,
 Qs 4 65 3 [95]] [0,4])
 (.cond (.t 4) (.seq (.reg [Qo 2 (.mv (.c (.d (.str []))))] [2])
 .ret)
 .skip))
 (.seq (.reg [Qm 5 0,
 Qc 6 126 5,
 Qm 2 6] [2])
 .ret)))
noncomputable def EM:Cx:=⟨Tryz.prog,172,Tryz.f172,7,[],[],[.t 2]⟩
theorem HY:Good EM:=⟨Tryz.func172,by kernel_rfl⟩
theorem Rx:EM.rs=[.t 2]:=rfl
theorem Sh (hl:args.length≤7) (h:Run EM K [.code LB] (Ak args) E σ):AP Tryz.prog 172 args σ K:=
 AT (cx:=EM) (code:=Tryz.f172.body.getD .skip) HY (by kernel_rfl) Tryz.ntmps172 hl (AW EM _ (Aw LB) _ [] (by kernel_rfl)) h
def LC:C:=(.seq (.reg [Qo 2 (.al [(.d (.int .i64 0)),(.d (.str [])),(.d (.int .i64 0)),.AO,.AO,.AO] false)] [0,2])
 (.seq (.reg [Qm 5 0,
 Qc 6 186 5,
 Qo 3 (.al [(.d (.int .i64 0)),(.d (.str [])),(.d (.int .i64 0)),.AO,.AO,.AO] false),
 Qz 3 6 6] [0,2,3])
 (.seq (.seq (.reg [Qm 7 0,
 Qo 8 (.call 187 [(.t 7),(.c (.d (.int .i64 1)))]),
 Qm 4 8] [0,2,3,4])
 (.seq (.reg [Qm 9 4,
 Qo 10 (.bin .neq (.t 9) (.c (.d (.int .i64 0))))] [0,2,3,4,10])
 (.cond (.t 10) (.seq (.reg [Qm 11 4,
 Qo 12 (.ldl (.t 3) (some 6)),
 Qm 13 0,
 Qc 14 186 13,
 Qo 15 (.call 188 [(.t 11),(.t 12),(.t 14)]),
 Qz 2 15 6] [2])
 .ret)
 .skip)))
 (.seq (.reg [Qo 16 (.ldl (.t 3) (some 6)),
 Qz 2 16 6] [2])
 .ret))))
noncomputable def EN:Cx:=⟨Tryz.prog,173,Tryz.f173,17,[300012,300016],[],[.c 2 (some 6)]⟩
theorem HZ:Good EN:=⟨Tryz.func173,by kernel_rfl⟩
theorem Ry:EN.rs=[.c 2 (some 6)]:=rfl
theorem Si (hl:args.length≤17) (h:Run EN K [.code LC] (Ak args) E σ):AP Tryz.prog 173 args σ K:=
 AT (cx:=EN) (code:=Tryz.f173.body.getD .skip) HZ (by kernel_rfl) Tryz.ntmps173 hl (AW EN _ (Aw LC) _ [] (by kernel_rfl)) h
def OZ:C:=(.seq (.seq (.reg [Qm 11 0,
 Qm 12 1,
 Qk 13 65 11 12] [0,1,2,7,13])
 (.cond (.t 13) .skip
 (.exit 0)))
 (.block 1 (.reg [Qm 14 7,
 Qm 15 2,
 Qo 16 (.E2 (.t 15) []),
 Qo 17 (.bsl 1 1 [(.d (.str []))] [(0,1,(.t 16))]),
 Qo 18 (.app 9 1 16 (.t 14) (.t 17)),
 Qm 7 18] [0,1,2,7])))
def KD:C:=(.seq (.reg [Qo 6 (.mv (.c .AO))] [0,1,2])
 (.seq (.reg [Qm 8 2,
 Qo 9 (.E2 (.t 8) []),
 Qo 10 (.Jr 9 1 1 [(.d (.str []))] [(0,1,(.t 9))]),
 Qm 7 10] [0,1,2,7])
 (.seq (.block 0 (.loop OZ))
 (.seq (.reg [Qm 19 7,
 Qm 6 19] [6])
 .ret))))
noncomputable def Dh:Cx:=⟨Tryz.prog,182,Tryz.f182,20,[10],[],[.t 6]⟩
theorem KQ:Good Dh:=⟨Tryz.func182,by kernel_rfl⟩
theorem Qh:Dh.rs=[.t 6]:=rfl
theorem Rj (hl:args.length≤20) (h:Run Dh K [.code KD] (Ak args) E σ):AP Tryz.prog 182 args σ K:=
 AT (cx:=Dh) (code:=Tryz.f182.body.getD .skip) KQ (by kernel_rfl) Tryz.ntmps182 hl (AW Dh _ (Aw KD) _ [] (by kernel_rfl)) h
def Ga:C:=(.seq (.reg [Qo 4 (.mv (.c .AO))] [0,1])
 (.seq (.reg [Qm 6 0,
 Qm 7 1,
 Qo 8 (.call 196 [(.t 6),(.c (.d (.str [44]))),(.t 7)]),
 Qm 5 8] [0,5])
 (.seq (.reg [Qm 9 0,
 Qs 10 127 9 [41]] [5])
 (.seq (.reg [Qm 11 5,
 Qm 4 11] [4])
 .ret))))
noncomputable def CJ:Cx:=⟨Tryz.prog,183,Tryz.f183,12,[],[],[.t 4]⟩
theorem Gf:Good CJ:=⟨Tryz.func183,by kernel_rfl⟩
theorem Lk:CJ.rs=[.t 4]:=rfl
theorem MH (hl:args.length≤12) (h:Run CJ K [.code Ga] (Ak args) E σ):AP Tryz.prog 183 args σ K:=
 AT (cx:=CJ) (code:=Tryz.f183.body.getD .skip) Gf (by kernel_rfl) Tryz.ntmps183 hl (AW CJ _ (Aw Ga) _ [] (by kernel_rfl)) h
def Ij:C:=(.seq (.reg [Qo 4 (.al [(.d (.int .i64 0)),(.d (.str [])),.AO] false)] [0,1,4])
 (.seq (.reg [Qm 6 0,
 Qs 7 127 6 [40]] [0,1,4])
 (.seq (.reg [Qm 8 0,
 Qc 9 168 8,
 Qo 5 (.al [(.d (.int .i64 0)),(.d (.str [])),.AO] false),
 Qz 5 9 3] [0,1,4,5])
 (.seq (.reg [Qm 10 0,
 Qs 11 127 10 [41]] [1,4,5])
 (.seq (.reg [Qm 12 1,
 Qo 13 (.ldl (.t 5) (some 3)),
 Qo 14 (.bsl 3 1 [(.d (.int .i64 0)),(.d (.str [])),.AO] [(0,3,(.t 13))]),
 Qo 15 (.bld [(.d (.int .i64 0)),(.d (.str [])),.AO] [(0,1,(.t 12)),(2,1,(.t 14))]),
 Qz 4 15 3] [4])
 .ret)))))
noncomputable def DH:Cx:=⟨Tryz.prog,184,Tryz.f184,16,[300013],[],[.c 4 (some 3)]⟩
theorem Ir:Good DH:=⟨Tryz.func184,by kernel_rfl⟩
theorem Oe:DH.rs=[.c 4 (some 3)]:=rfl
theorem PL (hl:args.length≤16) (h:Run DH K [.code Ij] (Ak args) E σ):AP Tryz.prog 184 args σ K:=
 AT (cx:=DH) (code:=Tryz.f184.body.getD .skip) Ir (by kernel_rfl) Tryz.ntmps184 hl (AW DH _ (Aw Ij) _ [] (by kernel_rfl)) h
def G9:C:=(.seq (.reg [Qo 4 (.mv (.c .AO))] [0,1])
 (.seq (.seq (.reg [Qm 5 0,
 Qs 6 65 5 [41]] [0,1,6])
 (.cond (.t 6) (.seq (.reg [Qo 4 (.mv (.c .AO))] [4])
 .ret)
 .skip))
 (.seq (.reg [Qm 7 0,
 Qm 8 1,
 Qk 9 183 7 8,
 Qm 4 9] [4])
 .ret)))
noncomputable def CH:Cx:=⟨Tryz.prog,185,Tryz.f185,10,[],[],[.t 4]⟩
theorem E5:Good CH:=⟨Tryz.func185,by kernel_rfl⟩
theorem Lj:CH.rs=[.t 4]:=rfl
theorem MG (hl:args.length≤10) (h:Run CH K [.code G9] (Ak args) E σ):AP Tryz.prog 185 args σ K:=
 AT (cx:=CH) (code:=Tryz.f185.body.getD .skip) E5 (by kernel_rfl) Tryz.ntmps185 hl (AW CH _ (Aw G9) _ [] (by kernel_rfl)) h
def QE:C:=(.seq (.seq (.reg [Qm 9 4,
 Qo 10 (.bin .neq (.t 9) (.c (.d (.int .i64 0))))] [0,2,3,4,10])
 (.cond (.t 10) .skip
 (.exit 0)))
 (.seq (.block 1 (.reg [Qm 13 4,
 Qo 14 (.ldl (.t 3) (some 6)),
 Qm 15 0,
 Qc 16 197 15,
 Qo 17 (.call 188 [(.t 13),(.t 14),(.t 16)]),
 Qz 3 17 6] [0,2,3]))
 (.reg [Qm 11 0,
 Qo 12 (.call 187 [(.t 11),(.c (.d (.int .i64 2)))]),
 Qm 4 12] [0,2,3,4])))
def MZ:C:=(.seq (.reg [Qo 2 (.al [(.d (.int .i64 0)),(.d (.str [])),(.d (.int .i64 0)),.AO,.AO,.AO] false)] [0,2])
 (.seq (.reg [Qm 5 0,
 Qc 6 197 5,
 Qo 3 (.al [(.d (.int .i64 0)),(.d (.str [])),(.d (.int .i64 0)),.AO,.AO,.AO] false),
 Qz 3 6 6] [0,2,3])
 (.seq (.seq (.reg [Qm 7 0,
 Qo 8 (.call 187 [(.t 7),(.c (.d (.int .i64 2)))]),
 Qm 4 8] [0,2,3,4])
 (.block 0 (.loop QE)))
 (.seq (.reg [Qo 18 (.ldl (.t 3) (some 6)),
 Qz 2 18 6] [2])
 .ret))))
noncomputable def Eh:Cx:=⟨Tryz.prog,186,Tryz.f186,19,[300014,300018],[],[.c 2 (some 6)]⟩
theorem M5:Good Eh:=⟨Tryz.func186,by kernel_rfl⟩
theorem TN:Eh.rs=[.c 2 (some 6)]:=rfl
theorem Tw (hl:args.length≤19) (h:Run Eh K [.code MZ] (Ak args) E σ):AP Tryz.prog 186 args σ K:=
 AT (cx:=Eh) (code:=Tryz.f186.body.getD .skip) M5 (by kernel_rfl) Tryz.ntmps186 hl (AW Eh _ (Aw MZ) _ [] (by kernel_rfl)) h
def Mc:C:=(.seq (.seq (.reg [Qm 6 5,
 Qo 7 (.bin .leq (.t 6) (.c (.d (.int .i64 8))))] [0,1,5,7])
 (.cond (.t 7) .skip
 (.exit 0)))
 (.seq (.block 1 (.seq (.reg [Qm 10 5,
 Qc 11 138 10,
 Qm 12 1,
 Qo 13 (.bin .eql (.t 11) (.t 12)),
 Qm 14 13,
 ⟨some 15,.mv (.t 0),some (14,true)⟩,
 ⟨some 16,.mv (.t 5),some (14,true)⟩,
 ⟨some 17,.call 91 [(.t 16)],some (14,true)⟩,
 ⟨some 18,.call 65 [(.t 15),(.t 17)],some (14,true)⟩,
 Qa 19 14 18] [0,1,5,19])
 (.cond (.t 19) (.seq (.reg [Qm 20 5,
 Qm 4 20] [4])
 .ret)
 .skip)))
 (.reg [Qm 8 5,
 Qp 9 8 1,
 Qm 5 9] [0,1,5])))
def IJ:C:=(.seq (.reg [Qi 4 0] [0,1])
 (.seq (.seq (.reg [Qi 5 1] [0,1,5])
 (.block 0 (.loop Mc)))
 (.seq (.reg [Qi 4 0] [4])
 .ret)))
noncomputable def DA:Cx:=⟨Tryz.prog,187,Tryz.f187,21,[],[],[.t 4]⟩
theorem F6:Good DA:=⟨Tryz.func187,by kernel_rfl⟩
theorem OB:DA.rs=[.t 4]:=rfl
theorem O7 (hl:args.length≤21) (h:Run DA K [.code IJ] (Ak args) E σ):AP Tryz.prog 187 args σ K:=
 AT (cx:=DA) (code:=Tryz.f187.body.getD .skip) F6 (by kernel_rfl) Tryz.ntmps187 hl (AW DA _ (Aw IJ) _ [] (by kernel_rfl)) h
def RT:C:=(.seq (.reg [Qo 4 (.box (.t 1) false),
 Qo 5 (.box (.t 2) false),
 Qo 6 (.al [(.d (.int .i64 0)),(.d (.str [])),(.d (.int .i64 0)),.AO,.AO,.AO] false)] [0,4,5,6])
 (.seq (.reg [Qm 7 0,
 Qo 8 (.ldl (.t 4) (some 6)),
 Qo 9 (.ldl (.t 5) (some 6)),
 Qo 10 (.bsl 6 2 [(.d (.int .i64 0)),(.d (.str [])),(.d (.int .i64 0)),.AO,.AO,.AO,(.d (.int .i64 0)),(.d (.str [])),(.d (.int .i64 0)),.AO,.AO,.AO] [(0,6,(.t 8)),(6,6,(.t 9))]),
 Qo 11 (.bld [(.d (.int .i64 0)),(.d (.str [])),(.d (.int .i64 0)),.AO,.AO,.AO] [(0,1,(.c (.d (.int .i64 13)))),(2,1,(.t 7)),(4,1,(.t 10))]),
 Qz 6 11 6] [6])
 .ret))
noncomputable def Gn:Cx:=⟨Tryz.prog,188,Tryz.f188,12,[300008,300009],[],[.c 6 (some 6)]⟩
theorem R1:Good Gn:=⟨Tryz.func188,by kernel_rfl⟩
theorem XW:Gn.rs=[.c 6 (some 6)]:=rfl
theorem YU (hl:args.length≤12) (h:Run Gn K [.code RT] (Ak args) E σ):AP Tryz.prog 188 args σ K:=
 AT (cx:=Gn) (code:=Tryz.f188.body.getD .skip) R1 (by kernel_rfl) Tryz.ntmps188 hl (AW Gn _ (Aw RT) _ [] (by kernel_rfl)) h
def K3:C:=(.seq (.seq (.reg [Qm 11 0,
 Qm 12 1,
 Qk 13 65 11 12] [0,1,2,7,13])
 (.cond (.t 13) .skip
 (.exit 0)))
 (.block 1 (.reg [Qm 14 7,
 Qm 15 2,
 Qo 16 (.E2 (.t 15) []),
 Qo 17 (.bsl 3 1 [(.d (.int .i64 0)),(.d (.str [])),.AO] [(0,3,(.t 16))]),
 Qo 18 (.app 75 3 48 (.t 14) (.t 17)),
 Qm 7 18] [0,1,2,7])))
def HB:C:=(.seq (.reg [Qo 6 (.mv (.c .AO))] [0,1,2])
 (.seq (.reg [Qm 8 2,
 Qo 9 (.E2 (.t 8) []),
 Qo 10 (.Jr 75 3 1 [(.d (.int .i64 0)),(.d (.str [])),.AO] [(0,3,(.t 9))]),
 Qm 7 10] [0,1,2,7])
 (.seq (.block 0 (.loop K3))
 (.seq (.reg [Qm 19 7,
 Qm 6 19] [6])
 .ret))))
noncomputable def CW:Cx:=⟨Tryz.prog,196,Tryz.f196,20,[10],[],[.t 6]⟩
theorem HF:Good CW:=⟨Tryz.func196,by kernel_rfl⟩
theorem ML:CW.rs=[.t 6]:=rfl
theorem Mi (hl:args.length≤20) (h:Run CW K [.code HB] (Ak args) E σ):AP Tryz.prog 196 args σ K:=
 AT (cx:=CW) (code:=Tryz.f196.body.getD .skip) HF (by kernel_rfl) Tryz.ntmps196 hl (AW CW _ (Aw HB) _ [] (by kernel_rfl)) h
def PA:C:=(.seq (.seq (.reg [Qm 9 4,
 Qo 10 (.bin .neq (.t 9) (.c (.d (.int .i64 0))))] [0,2,3,4,10])
 (.cond (.t 10) .skip
 (.exit 0)))
 (.seq (.block 1 (.reg [Qm 13 4,
 Qo 14 (.ldl (.t 3) (some 6)),
 Qm 15 0,
 Qc 16 204 15,
 Qo 17 (.call 188 [(.t 13),(.t 14),(.t 16)]),
 Qz 3 17 6] [0,2,3]))
 (.reg [Qm 11 0,
 Qo 12 (.call 187 [(.t 11),(.c (.d (.int .i64 3)))]),
 Qm 4 12] [0,2,3,4])))
def LK:C:=(.seq (.reg [Qo 2 (.al [(.d (.int .i64 0)),(.d (.str [])),(.d (.int .i64 0)),.AO,.AO,.AO] false)] [0,2])
 (.seq (.reg [Qm 5 0,
 Qc 6 204 5,
 Qo 3 (.al [(.d (.int .i64 0)),(.d (.str [])),(.d (.int .i64 0)),.AO,.AO,.AO] false),
 Qz 3 6 6] [0,2,3])
 (.seq (.seq (.reg [Qm 7 0,
 Qo 8 (.call 187 [(.t 7),(.c (.d (.int .i64 3)))]),
 Qm 4 8] [0,2,3,4])
 (.block 0 (.loop PA)))
 (.seq (.reg [Qo 18 (.ldl (.t 3) (some 6)),
 Qz 2 18 6] [2])
 .ret))))
noncomputable def EV:Cx:=⟨Tryz.prog,197,Tryz.f197,19,[300014,300018],[],[.c 2 (some 6)]⟩
theorem L3:Good EV:=⟨Tryz.func197,by kernel_rfl⟩
theorem SF:EV.rs=[.c 2 (some 6)]:=rfl
theorem Sp (hl:args.length≤19) (h:Run EV K [.code LK] (Ak args) E σ):AP Tryz.prog 197 args σ K:=
 AT (cx:=EV) (code:=Tryz.f197.body.getD .skip) L3 (by kernel_rfl) Tryz.ntmps197 hl (AW EV _ (Aw LK) _ [] (by kernel_rfl)) h
def JT:C:=(.seq (.seq (.reg [Qm 6 0,
 Qs 7 65 6 [40]] [0,2,3,7])
 (.cond (.t 7) .skip
 (.exit 0)))
 (.block 1 (.Q8 (.one (Qo 8 (.ldl (.t 3) (some 6)))
 (.one (Qm 10 0)
 (.one (Qm 11 0)
 (.one (Qo 12 (.mkf 131 [(.t 11)] []))
 (.alt (Qo 9 (.Jr 44 6 1 [(.d (.int .i64 0)),(.d (.str [])),(.d (.int .i64 0)),.AO,.AO,.AO] [(0,6,(.t 8))]))
 (.one (Qk 13 208 10 12)
 (.one (Qo 14 (.app 44 6 104 (.t 9) (.t 13)))
 (.one (Qo 15 (.bld [(.d (.int .i64 0)),(.d (.str [])),(.d (.int .i64 0)),.AO,.AO,.AO] [(0,1,(.c (.d (.int .i64 12)))),(4,1,(.t 14))]))
 (.one (Qz 3 15 6)
 .done))))
 (.alt (Qk 13 208 10 12)
 (.one (Qo 9 (.Jr 44 6 1 [(.d (.int .i64 0)),(.d (.str [])),(.d (.int .i64 0)),.AO,.AO,.AO] [(0,6,(.t 8))]))
 (.one (Qo 14 (.app 44 6 104 (.t 9) (.t 13)))
 (.one (Qo 15 (.bld [(.d (.int .i64 0)),(.d (.str [])),(.d (.int .i64 0)),.AO,.AO,.AO] [(0,1,(.c (.d (.int .i64 12)))),(4,1,(.t 14))]))
 (.one (Qz 3 15 6)
 .done))))
 .done)))))) [0,2,3])))
def To:C:=(.seq (.reg [Qo 2 (.al [(.d (.int .i64 0)),(.d (.str [])),(.d (.int .i64 0)),.AO,.AO,.AO] false)] [0,2])
 (.seq (.reg [Qm 4 0,
 Qc 5 207 4,
 Qo 3 (.al [(.d (.int .i64 0)),(.d (.str [])),(.d (.int .i64 0)),.AO,.AO,.AO] false),
 Qz 3 5 6] [0,2,3])
 (.seq (.block 0 (.loop JT))
 (.seq (.reg [Qo 16 (.ldl (.t 3) (some 6)),
 Qz 2 16 6] [2])
 .ret))))
def UJ:List (List Nat×PT):=[([0,2],.done),([0,2,3],.done),([0,2,3,7],.done),([0,2,3],(.one 0 (.one 2 (.one 3 (.one 4 (.alt 1 (.one 5 (.one 6 (.one 7 (.one 8 .done)))) (.alt 5 (.one 1 (.one 6 (.one 7 (.one 8 .done)))) .done))))))),([2],.done)]
noncomputable def D8:Cx:=⟨Tryz.prog,204,Tryz.f204,17,[9,300008,300016],[],[.c 2 (some 6)]⟩
theorem M2:Good D8:=⟨Tryz.func204,by kernel_rfl⟩
theorem TJ:D8.rs=[.c 2 (some 6)]:=rfl
theorem Ts (hl:args.length≤17) (h:Run D8 K [.code To] (Ak args) E σ):AP Tryz.prog 204 args σ K:=
 AT (cx:=D8) (code:=Tryz.f204.body.getD .skip) M2 (by kernel_rfl) Tryz.ntmps204 hl (AW D8 _ UJ _ [] (by kernel_rfl)) h
def Oz:C:=(.seq (.seq (.reg [Qm 68 5,
 Qo 69 (.bin .leq (.t 68) (.c (.d (.int .i64 7))))] [0,2,5,69])
 (.cond (.t 69) .skip
 (.exit 1)))
 (.seq (.block 2 (.seq (.reg [Qm 73 5,
 Qc 74 147 73,
 Qm 72 74,
 Qo 75 (.ext (.t 72) 0),
 Qo 76 (.ext (.t 72) 1),
 Qm 6 75,
 Qm 7 76] [0,2,5,6,7])
 (.seq (.reg [Qm 77 0,
 Qm 78 6,
 Qk 79 65 77 78] [0,2,5,7,79])
 (.cond (.t 79) (.seq (.reg [Qm 80 5,
 Qm 81 0,
 Qm 82 7,
 Qk 83 213 81 82,
 Qo 84 (.bld [(.d (.int .i64 0)),(.d (.str [])),(.d (.int .i64 0)),.AO,.AO,.AO] [(0,1,(.c (.d (.int .i64 14)))),(2,1,(.t 80)),(4,1,(.t 83))]),
 Qz 2 84 6] [2])
 .ret)
 .skip))))
 (.reg [Qm 70 5,
 Qp 71 70 1,
 Qm 5 71] [0,2,5])))
def LJ:C:=(.seq (.reg [Qo 2 (.al [(.d (.int .i64 0)),(.d (.str [])),(.d (.int .i64 0)),.AO,.AO,.AO] false)] [0,2])
 (.seq (.seq (.reg [Qm 8 0,
 Qc 9 64 8,
 Qo 3 (.al [(.d (.int .i64 0)),(.d (.str [])),(.d (.int .i64 0))] false),
 Qz 3 9 3] [0,2,3])
 (.block 0 (.seq (.reg [Qd 11 3 0,
 Ql 12 11,
 Qe 13 12 3,
 Qm 10 13] [0,2,3,10])
 (.cond (.t 10) (.seq (.reg [Qm 14 0,
 Qc 15 209 14,
 Qo 16 (.bld [(.d (.int .i64 0)),(.d (.str [])),(.d (.int .i64 0)),.AO,.AO,.AO] [(0,1,(.c (.d (.int .i64 3)))),(2,1,(.t 15))]),
 Qz 2 16 6] [2])
 .ret)
 (.seq (.reg [Qd 18 3 0,
 Ql 19 18,
 Qe 20 19 1,
 Qm 17 20] [0,2,3,17])
 (.cond (.t 17) (.seq (.reg [Qm 21 0,
 Qc 22 126 21,
 Qo 23 (.bld [(.d (.int .i64 0)),(.d (.str [])),(.d (.int .i64 0)),.AO,.AO,.AO] [(0,1,(.c (.d (.int .i64 4)))),(1,1,(.t 22))]),
 Qz 2 23 6] [2])
 .ret)
 (.seq (.reg [Qd 25 3 0,
 Ql 26 25,
 Qe 27 26 2,
 Qm 24 27] [0,2,24])
 (.cond (.t 24) (.seq (.reg [Qm 28 0,
 Qo 29 (.call 124 [(.t 28),(.c (.d (.int .i64 2)))]),
 Qo 30 (.bld [(.d (.int .i64 0)),(.d (.str [])),(.d (.int .i64 0)),.AO,.AO,.AO] [(0,1,(.c (.d (.int .i64 6)))),(1,1,(.t 29))]),
 Qo 4 (.al [(.d (.int .i64 0)),(.d (.str [])),(.d (.int .i64 0)),.AO,.AO,.AO] false),
 Qz 4 30 6] [0,2,4])
 (.seq (.reg [Qm 31 0,
 Qm 32 0,
 Qo 33 (.mkf 131 [(.t 32)] []),
 Qk 34 210 31 33,
 Qd 35 4 4,
 Qz 35 34 1] [2,4])
 (.seq (.reg [Qo 36 (.ldl (.t 4) (some 6)),
 Qz 2 36 6] [2])
 .ret)))
 (.seq (.reg [Qm 38 0,
 Qs 39 65 38 [45],
 Qm 37 39] [0,2,37])
 (.cond (.t 37) (.seq (.reg [Qm 40 0,
 Qc 41 209 40,
 Qo 42 (.un .neg (.t 41)),
 Qo 43 (.bld [(.d (.int .i64 0)),(.d (.str [])),(.d (.int .i64 0)),.AO,.AO,.AO] [(0,1,(.c (.d (.int .i64 3)))),(2,1,(.t 42))]),
 Qz 2 43 6] [2])
 .ret)
 (.seq (.reg [Qm 45 0,
 Qs 46 65 45 [116,114,117,101],
 Qm 44 46] [0,2,44])
 (.cond (.t 44) (.seq (.reg [Qo 47 (.bld [(.d (.int .i64 0)),(.d (.str [])),(.d (.int .i64 0)),.AO,.AO,.AO] [(0,1,(.c (.d (.int .i64 2)))),(2,1,(.c (.d (.int .i64 1))))]),
 Qz 2 47 6] [2])
 .ret)
 (.seq (.reg [Qm 49 0,
 Qs 50 65 49 [102,97,108,115,101],
 Qm 48 50] [0,2,48])
 (.cond (.t 48) (.seq (.reg [Qo 51 (.bld [(.d (.int .i64 0)),(.d (.str [])),(.d (.int .i64 0)),.AO,.AO,.AO] [(0,1,(.c (.d (.int .i64 2))))]),
 Qz 2 51 6] [2])
 .ret)
 (.seq (.reg [Qm 53 0,
 Qs 54 65 53 [40],
 Qm 52 54] [0,2,52])
 (.cond (.t 52) (.seq (.reg [Qm 55 0,
 Qc 56 211 55,
 Qz 2 56 6] [2])
 .ret)
 (.seq (.reg [Qm 58 0,
 Qs 59 65 58 [116,105,99,107],
 Qm 57 59] [0,2,57])
 (.cond (.t 57) (.seq (.reg [Qm 60 0,
 Qc 61 212 60,
 Qz 2 61 6] [2])
 .ret)
 (.seq (.reg [Qm 63 0,
 Qs 64 65 63 [114,97,105,115,101],
 Qm 62 64] [0,2,62])
 (.cond (.t 62) (.seq (.reg [Qm 65 0,
 Qo 66 (.call 213 [(.t 65),(.c (.d (.int .i64 1)))]),
 Qo 67 (.bld [(.d (.int .i64 0)),(.d (.str [])),(.d (.int .i64 0)),.AO,.AO,.AO] [(0,1,(.c (.d (.int .i64 16)))),(4,1,(.t 66))]),
 Qz 2 67 6] [2])
 .ret)
 .skip))))))))))))))))))))
 (.seq (.seq (.reg [Qi 5 1] [0,2,5])
 (.block 1 (.loop Oz)))
 (.seq (.reg [Qm 85 0,
 Qc 86 68 85] [2])
 (.seq (.reg [Qo 87 (.bld [(.d (.int .i64 0)),(.d (.str [])),(.d (.int .i64 0)),.AO,.AO,.AO] []),
 Qz 2 87 6] [2])
 .ret)))))
noncomputable def EU:Cx:=⟨Tryz.prog,207,Tryz.f207,88,[300012,300019,300026,300036],[],[.c 2 (some 6)]⟩
theorem BP:Good EU:=⟨Tryz.func207,by kernel_rfl⟩
theorem SE:EU.rs=[.c 2 (some 6)]:=rfl
theorem So (hl:args.length≤88) (h:Run EU K [.code LJ] (Ak args) E σ):AP Tryz.prog 207 args σ K:=
 AT (cx:=EU) (code:=Tryz.f207.body.getD .skip) BP (by kernel_rfl) Tryz.ntmps207 hl (AW EU _ (Aw LJ) _ [] (by kernel_rfl)) h
def IF:C:=(.seq (.reg [Qo 4 (.mv (.c .AO))] [0,1])
 (.seq (.seq (.reg [Qm 5 0,
 Qs 6 65 5 [41]] [0,1,6])
 (.cond (.t 6) (.seq (.reg [Qo 4 (.mv (.c .AO))] [4])
 .ret)
 .skip))
 (.seq (.reg [Qm 7 0,
 Qm 8 1,
 Qk 9 214 7 8,
 Qm 4 9] [4])
 .ret)))
noncomputable def Cv:Cx:=⟨Tryz.prog,208,Tryz.f208,10,[],[],[.t 4]⟩
theorem F3:Good Cv:=⟨Tryz.func208,by kernel_rfl⟩
theorem Nx:Cv.rs=[.t 4]:=rfl
theorem O3 (hl:args.length≤10) (h:Run Cv K [.code IF] (Ak args) E σ):AP Tryz.prog 208 args σ K:=
 AT (cx:=Cv) (code:=Tryz.f208.body.getD .skip) F3 (by kernel_rfl) Tryz.ntmps208 hl (AW Cv _ (Aw IF) _ [] (by kernel_rfl)) h
def JV:C:=(.seq (.reg [Qi 2 0] [0])
 (.seq (.reg [Qm 6 0,
 Qo 7 (.call 124 [(.t 6),(.c (.d (.int .i64 3)))]),
 Qo 8 (.call 215 [(.t 7),(.c (.d (.int .i64 10))),(.c (.d (.int .i64 64)))]),
 Qm 5 8,
 Qo 9 (.ext (.t 5) 0),
 Qo 10 (.ext (.t 5) 1),
 Qm 3 9,
 Qm 4 10] [3])
 (.seq (.reg [Qm 11 3,
 Qm 2 11] [2])
 .ret)))
noncomputable def D5:Cx:=⟨Tryz.prog,209,Tryz.f209,12,[],[],[.t 2]⟩
theorem J7:Good D5:=⟨Tryz.func209,by kernel_rfl⟩
theorem Pd:D5.rs=[.t 2]:=rfl
theorem QX (hl:args.length≤12) (h:Run D5 K [.code JV] (Ak args) E σ):AP Tryz.prog 209 args σ K:=
 AT (cx:=D5) (code:=Tryz.f209.body.getD .skip) J7 (by kernel_rfl) Tryz.ntmps209 hl (AW D5 _ (Aw JV) _ [] (by kernel_rfl)) h
def IH:C:=(.seq (.reg [Qo 4 (.mv (.c .AO))] [0,1])
 (.seq (.seq (.reg [Qm 5 0,
 Qs 6 65 5 [40],
 Qo 7 (.un .not (.t 6))] [0,1,7])
 (.cond (.t 7) (.seq (.reg [Qo 4 (.mv (.c .AO))] [4])
 .ret)
 .skip))
 (.seq (.reg [Qm 8 0,
 Qm 9 1,
 Qk 10 214 8 9,
 Qm 4 10] [4])
 .ret)))
noncomputable def Cy:Cx:=⟨Tryz.prog,210,Tryz.f210,11,[],[],[.t 4]⟩
theorem F4:Good Cy:=⟨Tryz.func210,by kernel_rfl⟩
theorem Nz:Cy.rs=[.t 4]:=rfl
theorem O5 (hl:args.length≤11) (h:Run Cy K [.code IH] (Ak args) E σ):AP Tryz.prog 210 args σ K:=
 AT (cx:=Cy) (code:=Tryz.f210.body.getD .skip) F4 (by kernel_rfl) Tryz.ntmps210 hl (AW Cy _ (Aw IH) _ [] (by kernel_rfl)) h
def Md:C:=(.seq (.reg [Qo 2 (.al [(.d (.int .i64 0)),(.d (.str [])),(.d (.int .i64 0)),.AO,.AO,.AO] false)] [0,2])
 (.seq (.seq (.reg [Qm 4 0,
 Qs 5 65 4 [41]] [0,2,5])
 (.cond (.t 5) (.seq (.reg [Qo 6 (.bld [(.d (.int .i64 0)),(.d (.str [])),(.d (.int .i64 0)),.AO,.AO,.AO] [(0,1,(.c (.d (.int .i64 1))))]),
 Qz 2 6 6] [2])
 .ret)
 .skip))
 (.seq (.reg [Qm 7 0,
 Qc 8 131 7,
 Qo 3 (.al [(.d (.int .i64 0)),(.d (.str [])),(.d (.int .i64 0)),.AO,.AO,.AO] false),
 Qz 3 8 6] [0,2,3])
 (.seq (.seq (.reg [Qm 9 0,
 Qs 10 65 9 [41]] [0,2,3,10])
 (.cond (.t 10) (.seq (.reg [Qo 11 (.ldl (.t 3) (some 6)),
 Qz 2 11 6] [2])
 .ret)
 .skip))
 (.seq (.reg [Qm 12 0,
 Qs 13 127 12 [44]] [0,2,3])
 (.seq (.Q8 (.one (Qo 14 (.ldl (.t 3) (some 6)))
 (.one (Qm 16 0)
 (.one (Qm 17 0)
 (.one (Qo 18 (.mkf 131 [(.t 17)] []))
 (.alt (Qo 15 (.Jr 44 6 1 [(.d (.int .i64 0)),(.d (.str [])),(.d (.int .i64 0)),.AO,.AO,.AO] [(0,6,(.t 14))]))
 (.one (Qk 19 214 16 18)
 (.one (Qo 20 (.app 44 6 104 (.t 15) (.t 19)))
 (.one (Qo 21 (.bld [(.d (.int .i64 0)),(.d (.str [])),(.d (.int .i64 0)),.AO,.AO,.AO] [(0,1,(.c (.d (.int .i64 5)))),(4,1,(.t 20))]))
 (.one (Qz 2 21 6)
 .done))))
 (.alt (Qk 19 214 16 18)
 (.one (Qo 15 (.Jr 44 6 1 [(.d (.int .i64 0)),(.d (.str [])),(.d (.int .i64 0)),.AO,.AO,.AO] [(0,6,(.t 14))]))
 (.one (Qo 20 (.app 44 6 104 (.t 15) (.t 19)))
 (.one (Qo 21 (.bld [(.d (.int .i64 0)),(.d (.str [])),(.d (.int .i64 0)),.AO,.AO,.AO] [(0,1,(.c (.d (.int .i64 5)))),(4,1,(.t 20))]))
 (.one (Qz 2 21 6)
 .done))))
 .done)))))) [2])
 .ret))))))
def Mw:List (List Nat×PT):=[([0,2],.done),([0,2,5],.done),([2],.done),([0,2,3],.done),([0,2,3,10],.done),([2],.done),([0,2,3],.done),([2],(.one 0 (.one 2 (.one 3 (.one 4 (.alt 1 (.one 5 (.one 6 (.one 7 (.one 8 .done)))) (.alt 5 (.one 1 (.one 6 (.one 7 (.one 8 .done)))) .done)))))))]
noncomputable def CX:Cx:=⟨Tryz.prog,211,Tryz.f211,22,[15,300011,300014],[],[.c 2 (some 6)]⟩
theorem CS:Good CX:=⟨Tryz.func211,by kernel_rfl⟩
theorem MM:CX.rs=[.c 2 (some 6)]:=rfl
theorem Mj (hl:args.length≤22) (h:Run CX K [.code Md] (Ak args) E σ):AP Tryz.prog 211 args σ K:=
 AT (cx:=CX) (code:=Tryz.f211.body.getD .skip) CS (by kernel_rfl) Tryz.ntmps211 hl (AW CX _ Mw _ [] (by kernel_rfl)) h
def LM:C:=(.seq (.reg [Qo 2 (.al [(.d (.int .i64 0)),(.d (.str [])),(.d (.int .i64 0)),.AO,.AO,.AO] false)] [0,2])
 (.seq (.reg [Qm 4 0,
 Qs 5 127 4 [40]] [0,2])
 (.seq (.reg [Qo 6 (.bld [(.d (.int .i64 0)),(.d (.str [])),(.d (.int .i64 0)),.AO,.AO,.AO] [(0,1,(.c (.d (.int .i64 15))))]),
 Qo 3 (.al [(.d (.int .i64 0)),(.d (.str [])),(.d (.int .i64 0)),.AO,.AO,.AO] false),
 Qz 3 6 6] [0,2,3])
 (.seq (.seq (.reg [Qm 7 0,
 Qs 8 65 7 [45]] [0,2,3,8])
 (.cond (.t 8) (.reg [Qm 9 0,
 Qc 10 209 9,
 Qo 11 (.un .neg (.t 10)),
 Qd 12 3 2,
 Qz 12 11 1] [0,2,3])
 (.reg [Qm 13 0,
 Qc 14 209 13,
 Qd 15 3 2,
 Qz 15 14 1] [0,2,3])))
 (.seq (.reg [Qm 16 0,
 Qs 17 127 16 [41]] [2,3])
 (.seq (.reg [Qo 18 (.ldl (.t 3) (some 6)),
 Qz 2 18 6] [2])
 .ret))))))
noncomputable def EX:Cx:=⟨Tryz.prog,212,Tryz.f212,19,[300018],[],[.c 2 (some 6)]⟩
theorem H3:Good EX:=⟨Tryz.func212,by kernel_rfl⟩
theorem SH:EX.rs=[.c 2 (some 6)]:=rfl
theorem Sr (hl:args.length≤19) (h:Run EX K [.code LM] (Ak args) E σ):AP Tryz.prog 212 args σ K:=
 AT (cx:=EX) (code:=Tryz.f212.body.getD .skip) H3 (by kernel_rfl) Tryz.ntmps212 hl (AW EX _ (Aw LM) _ [] (by kernel_rfl)) h
def MB:C:=(.seq (.reg [Qo 14 (.bin .lss (.t 13) (.t 12))] [0,5,12,13,14])
 (.seq (.cond (.t 14) .skip
 (.exit 0))
 (.seq (.block 1 (.seq (.reg [Qm 15 0,
 Qs 16 127 15 [44]] [0,5,12,13])
 (.reg [Qm 17 5,
 Qm 18 0,
 Qc 19 131 18,
 Qo 20 (.bsl 6 1 [(.d (.int .i64 0)),(.d (.str [])),(.d (.int .i64 0)),.AO,.AO,.AO] [(0,6,(.t 19))]),
 Qo 21 (.app 44 6 104 (.t 17) (.t 20)),
 Qm 5 21] [0,5,12,13])))
 (.reg [Qp 22 13 1,
 Qm 13 22] [0,5,12,13]))))
def Hq:C:=(.seq (.reg [Qo 4 (.mv (.c .AO))] [0,1])
 (.seq (.reg [Qm 6 0,
 Qs 7 127 6 [40]] [0,1])
 (.seq (.reg [Qm 8 0,
 Qc 9 131 8,
 Qo 10 (.Jr 44 6 1 [(.d (.int .i64 0)),(.d (.str [])),(.d (.int .i64 0)),.AO,.AO,.AO] [(0,6,(.t 9))]),
 Qm 5 10] [0,1,5])
 (.seq (.seq (.reg [Qm 11 1,
 Qo 12 (.bin .sub (.t 11) (.c (.d (.int .i64 1)))),
 Qi 13 0] [0,5,12,13])
 (.block 0 (.loop MB)))
 (.seq (.reg [Qm 23 0,
 Qs 24 127 23 [41]] [5])
 (.seq (.reg [Qm 25 5,
 Qm 4 25] [4])
 .ret))))))
noncomputable def Ck:Cx:=⟨Tryz.prog,213,Tryz.f213,26,[10],[],[.t 4]⟩
theorem Ht:Good Ck:=⟨Tryz.func213,by kernel_rfl⟩
theorem Nb:Ck.rs=[.t 4]:=rfl
theorem Ns (hl:args.length≤26) (h:Run Ck K [.code Hq] (Ak args) E σ):AP Tryz.prog 213 args σ K:=
 AT (cx:=Ck) (code:=Tryz.f213.body.getD .skip) Ht (by kernel_rfl) Tryz.ntmps213 hl (AW Ck _ (Aw Hq) _ [] (by kernel_rfl)) h
def IG:C:=(.seq (.reg [Qo 4 (.mv (.c .AO))] [0,1])
 (.seq (.reg [Qm 6 0,
 Qm 7 1,
 Qo 8 (.call 216 [(.t 6),(.c (.d (.str [44]))),(.t 7)]),
 Qm 5 8] [0,5])
 (.seq (.reg [Qm 9 0,
 Qs 10 127 9 [41]] [5])
 (.seq (.reg [Qm 11 5,
 Qm 4 11] [4])
 .ret))))
noncomputable def Cw:Cx:=⟨Tryz.prog,214,Tryz.f214,12,[],[],[.t 4]⟩
theorem IN:Good Cw:=⟨Tryz.func214,by kernel_rfl⟩
theorem Ny:Cw.rs=[.t 4]:=rfl
theorem O4 (hl:args.length≤12) (h:Run Cw K [.code IG] (Ak args) E σ):AP Tryz.prog 214 args σ K:=
 AT (cx:=Cw) (code:=Tryz.f214.body.getD .skip) IN (by kernel_rfl) Tryz.ntmps214 hl (AW Cw _ (Aw IG) _ [] (by kernel_rfl)) h
def NF:C:=(.seq (.seq (.reg [Qm 11 0,
 Qm 12 1,
 Qk 13 65 11 12] [0,1,2,7,13])
 (.cond (.t 13) .skip
 (.exit 0)))
 (.block 1 (.reg [Qm 14 7,
 Qm 15 2,
 Qo 16 (.E2 (.t 15) []),
 Qo 17 (.bsl 6 1 [(.d (.int .i64 0)),(.d (.str [])),(.d (.int .i64 0)),.AO,.AO,.AO] [(0,6,(.t 16))]),
 Qo 18 (.app 44 6 104 (.t 14) (.t 17)),
 Qm 7 18] [0,1,2,7])))
def Ii:C:=(.seq (.reg [Qo 6 (.mv (.c .AO))] [0,1,2])
 (.seq (.reg [Qm 8 2,
 Qo 9 (.E2 (.t 8) []),
 Qo 10 (.Jr 44 6 1 [(.d (.int .i64 0)),(.d (.str [])),(.d (.int .i64 0)),.AO,.AO,.AO] [(0,6,(.t 9))]),
 Qm 7 10] [0,1,2,7])
 (.seq (.block 0 (.loop NF))
 (.seq (.reg [Qm 19 7,
 Qm 6 19] [6])
 .ret))))
noncomputable def DG:Cx:=⟨Tryz.prog,216,Tryz.f216,20,[10],[],[.t 6]⟩
theorem Iq:Good DG:=⟨Tryz.func216,by kernel_rfl⟩
theorem Od:DG.rs=[.t 6]:=rfl
theorem PK (hl:args.length≤20) (h:Run DG K [.code Ii] (Ak args) E σ):AP Tryz.prog 216 args σ K:=
 AT (cx:=DG) (code:=Tryz.f216.body.getD .skip) Iq (by kernel_rfl) Tryz.ntmps216 hl (AW DG _ (Aw Ii) _ [] (by kernel_rfl)) h
attribute [go_sem] Y8 Of SD Pb Rz TL SB Qj SG P9 SC Pc Ms TK P4 SA P8 P6 Ll TO TM P5 TI Rx Ry Qh Lk Oe Lj TN OB XW ML SF TJ SE Nx Pd Nz MM SH Nb Ny Od
end Go.Ab
