/- Reading the tokens of a formatted text back, in plain data: the rules. Reading the tokens of a formatted text back, in plain data: types. Reading the tokens of a formatted text back, in plain data: expressions. Conditions: none. -/
import Derived.Test.YtifplkldbbcldaaGreatDoorXQg
set_option linter.unusedSimpArgs false
set_option linter.unusedVariables false
set_option maxRecDepth 4000
set_option maxHeartbeats 8000000
open List renaming drop→Gu,append_assoc→AT,length_drop→Aj,drop_drop→Cv,length_append→AA,append_nil→AZ,length_cons→AE,map_cons→AD,flatten_cons→Cj,mem_cons_of_mem→Ah,mem_cons_self→Ad,length→Re,all_eq_true→A5,map_append→Bn,map_nil→AG,contains_eq_mem→Dv,length_pos_iff→Ar,cons_append→AX
open Nat renaming le_trans→BC,le_refl→A8,zero_le→CS
open Bool renaming or_true→Od,or_eq_true→BM,and_eq_true→AN,eq_false_iff→F4
namespace Go.Ab
def hdT (k:List KT):Str:=(k.headD (6,[])).2
def hdK (k:List KT):Int:=(k.headD (6,[])).1
def noT (l:List Str) (k:List KT):Prop:=l.contains (hdT k)=false
def Rd {α:Type} (N:Nat) (m:PM α) (a:α) (ks:List KT) (K:List KT→Prop):Prop:=
 ∀r p k,r.length≤N→r.length≤17000→strip r=ks++k→K k→m.run ⟨r,false,p⟩=(a,⟨r.drop ks.length,false,p⟩)
def Ac (N:Nat) (m:PM Ex) (c:Nat→Ex→PM Ex) (e:Ex) (ks:List KT) (K:List KT→Prop):Prop:=
 ∃j,j≤ks.length∧∀r p k,r.length≤N→r.length≤17000→strip r=ks++k→K k→m.run ⟨r,false,p⟩=(c (BE - j) e).run ⟨r.drop ks.length,false,p⟩
variable {α β:Type} {N:Nat} {K:List KT→Prop}
theorem Pb (r:List Tok):(strip r).length=r.length:=by simp [strip]
theorem Kk {r:List Tok} {ks k:List KT} (h:strip r=ks++k):strip (r.drop ks.length)=k:=by
 have:=congrArg (Gu ks.length) h
 rw [List.drop_left] at this
 rw [← this,strip,strip,List.map_drop]
theorem G9 {r:List Tok} {k:List KT} (h:strip r=k):(r.headD U8).text=hdT k∧(r.headD U8).kind=hdK k:=by
 subst h
 cases r with
 |nil=>exact ⟨rfl,rfl⟩
 |cons t l=>exact ⟨rfl,rfl⟩
theorem Rd.mono {m:PM α} {a:α} {ks:List KT} {M:Nat} (h:Rd N m a ks K) (hM:M≤N):Rd M m a ks K:=fun r p k h1=>h r p k (BC h1 hM)
theorem Rd.imp {m:PM α} {a:α} {ks:List KT} {K':List KT→Prop} (h:Rd N m a ks K) (hK:∀k,K' k→K k):Rd N m a ks K':=fun r p k h1 h2 h3 h4=>h r p k h1 h2 h3 (hK k h4)
theorem Rd.pure (a:α):Rd N (.pure a) a [] K:=fun _ _ _ _ _ _ _=>rfl
theorem Rd.bind {m:PM α} {f:α→PM β} {a:α} {b:β} {k1 k2:List KT} {K1:List KT→Prop} (h1:Rd N m a k1 K1) (h2:Rd (N - k1.length) (f a) b k2 K) (hK:∀k,K k→K1 (k2++k)):Rd N (m.bind f) b (k1++k2) K:=fun r p k hN hL hs hk=>by
 rw [AT] at hs
 have e1:=h1 r p (k2++k) hN hL hs (hK k hk)
 have e2:=h2 (r.drop k1.length) p k (by rw [Aj];omega) (by rw [Aj];omega) (Kk hs) hk
 show (f (m.run ⟨r,false,p⟩).1).run (m.run ⟨r,false,p⟩).2=_
 rw [e1]
 show (f a).run ⟨r.drop k1.length,false,p⟩=_
 rw [e2,Cv,AA]
theorem Rd.C2 {m:PM α} {f:α→PM β} {a:α} {b:β} {q:KT} {k2:List KT} {K1:List KT→Prop} (h1:Rd N m a [q] K1) (h2:Rd (N - 1) (f a) b k2 K) (hK:∀k,K k→K1 (k2++k)):Rd N (m.bind f) b (q::k2) K:=Rd.bind h1 h2 hK
theorem Rd.map {m:PM α} {a:α} {ks:List KT} (g:α→β) (h:Rd N m a ks K):Rd N (m.map g) (g a) ks K:=by
 have:=Rd.bind (f:=fun a=>PM.pure (g a)) h (Rd.pure (K:=K) (g a)) (fun k h=>h)
 rwa [AZ] at this
theorem Rd.CO {t:Str} {ht:t≠[]} {y n:PM α} {a:α} {ks:List KT} (q:Int) (h:Rd (N - 1) y a ks K):Rd N (.acc t ht y n) a ((q,t)::ks) K:=fun r p k hN hL hs hk=>by
 have hh:=(G9 hs).1
 rw [q9 (by rw [hh];simp [hdT])]
 have e:=h r.tail p k (by rw [List.length_tail];omega) (by rw [List.length_tail];omega) (by have:=Kk (ks:=[(q,t)]) hs;simpa using this) hk
 rw [e,AE,← List.drop_one,Cv,Nat.add_comm]
theorem Rd.BU {t:Str} {ht:t≠[]} {y n:PM α} {a:α} {ks:List KT} (hn:∀k,K k→hdT (ks++k)≠t) (h:Rd N n a ks K):Rd N (.acc t ht y n) a ks K:=fun r p k hN hL hs hk=>by
 have hh:=(G9 hs).1
 rw [SW (by rw [hh];simpa using hn k hk)]
 exact h r p k hN hL hs hk
theorem Rd.YJ {k0:Int} {y n:PM α} {a:α} {t:Str} {ks:List KT} (h:Rd N y a ((k0,t)::ks) K):Rd N (.kind k0 y n) a ((k0,t)::ks) K:=fun r p k hN hL hs hk=>by
 have hh:=(G9 hs).2
 have e:(PM.kind k0 y n).run ⟨r,false,p⟩=y.run ⟨r,false,p⟩:=if_pos (by rw [PSt.hd,hh];simp [hdK])
 rw [e];exact h r p k hN hL hs hk
theorem Rd.C5 {k0:Int} {y n:PM α} {a:α} {ks:List KT} (hn:∀k,K k→hdK (ks++k)≠k0) (h:Rd N n a ks K):Rd N (.kind k0 y n) a ks K:=fun r p k hN hL hs hk=>by
 have hh:=(G9 hs).2
 have e:(PM.kind k0 y n).run ⟨r,false,p⟩=n.run ⟨r,false,p⟩:=if_neg (by rw [PSt.hd,hh];simpa using hn k hk)
 rw [e];exact h r p k hN hL hs hk
theorem drop1 (r:List Tok):r.drop 1=r.tail:=List.drop_one
theorem Rd.exp {t:Str} {ht:t≠[]} (q:Int):Rd N (PM.exp t ht) () [(q,t)] K:=fun r p k _ _ hs _=>by
 have hh:=(G9 hs).1
 have e:(PM.exp t ht).run ⟨r,false,p⟩=((),⟨r.tail,false,p⟩):=if_pos (by simp only [PSt.hd,hh];simp [hdT])
 rw [e,← drop1];rfl
theorem Rd.take {q:Int} {hq:q≠6} (s:Str):Rd N (PM.take q hq) s [(q,s)] K:=fun r p k _ _ hs _=>by
 obtain ⟨h1,h2⟩:=G9 hs
 have e:(PM.take q hq).run ⟨r,false,p⟩=((r.headD U8).text,⟨r.tail,false,p⟩):=if_pos (by simp only [PSt.hd,h2];simp [hdK])
 rw [e,h1,← drop1];rfl
def aH (sep:Str) (g:α→List KT) (xs:List α):List KT:=(xs.map fun x=>(5,sep)::g x).flatten
theorem YG (sep:Str) (g:α→List KT):∀(x:α) (xs:List α),[((5:Int),sep)].intercalate ((x::xs).map g)=g x++aH sep g xs
 |x,[]=>by simp [aH]
 |x,y::xs=>by
  have ih:=YG sep g y xs
  simp only [AD] at ih ⊢
  rw [bI,ih]
  simp [aH]
theorem aI (sep:Str) (g:α→List KT):∀xs:List α,xs.length≤(aH sep g xs).length
 |[]=>A8 _
 |x::xs=>by
  have:=aI sep g xs
  simp only [aH,AD,Cj,AA,AE] at this ⊢;omega
theorem Z7 {read:PM α} {sep:Str} {hsep:sep≠[]} {g:α→List KT} {Kr:List KT→Prop} (h5:∀k,Kr ((5,sep)::k)):∀(xs:List α) (n:Nat) (acc:List α) (N:Nat),xs.length≤n→(∀x∈xs,∀M,M≤N→Rd M read x (g x) Kr)→Rd N (EZ read sep hsep n acc) (acc++xs) (aH sep g xs) (fun k=>Kr k∧hdT k≠sep)
 |[],n,acc,N,_,_=>by
  rw [AZ]
  cases n with
  |zero=>exact Rd.pure _
  |succ n=>exact Rd.BU (fun k hk=>hk.2) (Rd.pure _)
 |x::xs,0,acc,N,h,_=>by simp at h
 |x::xs,n+1,acc,N,h,hr=>by
  have ih:=Z7 (hsep:=hsep) h5 xs n (acc++[x]) (N - 1 - (g x).length) (by simp at h;omega) (fun y hy M hM=>hr y (Ah _ hy) M (by omega))
  rw [AT] at ih
  refine Rd.CO 5 (Rd.bind (hr x (Ad ..) (N - 1) (by omega)) ih (fun k hk=>?_))
  cases xs with
  |nil=>exact hk.1
  |cons y ys=>exact h5 _
theorem X7 {read:PM α} {sep:Str} {hsep:sep≠[]} {g:α→List KT} {Kr:List KT→Prop} (h5:∀k,Kr ((5,sep)::k)) {xs:List α} (hne:xs≠[]) (hr:∀x∈xs,∀M,M≤N→Rd M read x (g x) Kr):Rd N (items read sep hsep) xs ([((5:Int),sep)].intercalate (xs.map g)) (fun k=>Kr k∧hdT k≠sep):=by
 cases xs with
 |nil=>exact absurd rfl hne
 |cons x xs=>
  rw [YG]
  intro r p k hN hL hs hk
  have hlen:xs.length≤BE:=by
   have h1:=aI sep g xs
   have h2:=congrArg Re hs
   rw [Pb,AA,AA] at h2
   have:=Fk
   omega
  refine Rd.bind (K1:=Kr) (hr x (Ad ..) N (A8 _)) (Z7 h5 xs BE [x] (N - (g x).length) hlen (fun y hy M hM=>hr y (Ah _ hy) M (by omega))) (fun k hk=>?_) r p k hN hL hs hk
  cases xs with
  |nil=>exact hk.1
  |cons y ys=>exact h5 _
theorem Oi {read:PM α} {g:α→List KT} {Kr:List KT→Prop} (h5:∀k,Kr ((5,[44])::k)) (h6:∀k,Kr ((5,[41])::k)) {xs:List α} (hne:xs≠[]) (hr:∀x∈xs,∀M,M≤N→Rd M read x (g x) Kr):Rd N (listed read) xs (cmK (xs.map g)++[(5,[41])]) K:=
 Rd.bind (X7 h5 hne hr) (Rd.C2 (Rd.exp 5) (Rd.pure xs) (fun _ h=>h)) (fun k _=>⟨h6 k,by simp [hdT]⟩)
theorem wT {read:PM α} {g:α→List KT} {Kr:List KT→Prop} (h5:∀k,Kr ((5,[44])::k)) (h6:∀k,Kr ((5,[41])::k)) {xs:List α} (hne:xs≠[]) (hr:∀x∈xs,∀M,M+1≤N→Rd M read x (g x) Kr) (n:PM (List α)) (ht:[40]≠[]):Rd N (.acc [40] ht (listed read) n) xs (ID (cmK (xs.map g))) K:=by
 by_cases hN:N=0
 · subst hN
   intro r p k h1 _ hs _
   have:=congrArg Re hs
   rw [Pb] at this
   simp [ID] at this
   omega
 · exact Rd.CO 5 (Oi h5 h6 hne (fun x hx M hM=>hr x hx M (by omega)))
theorem X8 {read:PM α} {g:α→List KT} {Kr:List KT→Prop} (h5:∀k,Kr ((5,[44])::k)) (h6:∀k,Kr ((5,[41])::k)) (xs:List α) (hr:∀x∈xs,∀M,M+1≤N→Rd M read x (g x) Kr):Rd N (I7 read) xs (VW (xs.map g)) (fun k=>xs=[]→hdT k≠[40]):=by
 cases xs with
 |nil=>exact Rd.BU (fun k hk=>hk rfl) (Rd.pure _)
 |cons x xs=>exact wT h5 h6 (by simp) hr _ _
theorem aQ {read:PM α} {g:α→List KT} {Kr:List KT→Prop} (h5:∀k,Kr ((5,[44])::k)) (h6:∀k,Kr ((5,[41])::k)) (xs:List α) (hr:∀x∈xs,∀M,M≤N→Rd M read x (g x) Kr) (hh:∀x∈xs,∀k,hdT (g x++k)≠[41]):Rd N (closed read) xs (cmK (xs.map g)++[(5,[41])]) K:=by
 cases xs with
 |nil=>exact Rd.CO 5 (Rd.pure _)
 |cons x xs=>
  refine Rd.BU (fun k _=>?_) (Oi h5 h6 (by simp) hr)
  rw [cmK,YG,AT,AT]
  exact hh x (Ad ..) _
theorem kZ {s:Str} {k:Int} (hk:k=1∨k=2) (h:Qc k s=true):OL s=false:=by
 have:∀t,FO s= .ok (k,t)→t=s→OL s=false:=fun t ht e=>by
  subst e
  obtain ⟨h1,_,_⟩:=Ye 0 ht
  rcases h1 with ⟨_,h⟩|h|h|h
  · exact h
  · simp only at h;omega
  · simp only at h;omega
  · have:=h.1;simp only at this;omega
 rcases hk with rfl|rfl
 · obtain ⟨b,r,rfl,h1,h2,h3,h4⟩:=YO h
   refine this (b::r) ?_ rfl
   have ht:=cP (p:=FW Nv) (s:=b::r) (rest:=[]) h2 (fun _ _ e=>by cases e)
   rw [AZ] at ht
   rw [FO,ht,h1,(Vx h1).2.2,h4,decide_eq_false (by omega)];rfl
 · obtain ⟨b,r,rfl,h1,h2,h3⟩:=WW h
   refine this (b::r) ?_ rfl
   have ht:=cP (p:=FW Nv) (s:=b::r) (rest:=[]) h2 (fun _ _ e=>by cases e)
   rw [AZ] at ht
   rw [FO,ht,h1,decide_eq_false (by omega),Od];rfl
theorem OM {s t:Str} (h:OL s=false) (ht:OL t=true):s≠t:=fun e=>by rw [e,ht] at h;cases h
theorem Vy {s:Str} (h:Hi s=true):OL s=false:=kZ (.inl rfl) h
theorem kX {s:Str} (h:upperB s=true):OL s=false:=kZ (.inr rfl) h
theorem Rf {s:Str} (h:Ha s=true):Rd N G2 s (shK s) K:=by
 unfold shK
 split
 · rename_i e;subst e;exact Rd.CO 5 (Rd.pure _)
 · rename_i e
   simp only [Ha,BM,beq_iff_eq] at h
   have hn:Hi s=true:=h.resolve_left e
   exact Rd.BU (fun k _=>OM (Vy hn) (by decide)) (Rd.take s)
end Go.Ab
namespace Go.Ab
variable {N:Nat} {K:List KT→Prop}
def noP (k:List KT):Prop:=hdT k≠[40]
theorem fG:∀ {d:Nat} {t:TE},Du d t=true→∃q x l,IH t=(q,x)::l∧x≠[41]
 |0,.mk ..,h=>by cases h
 |d+1,.mk k n l,h=>by
  rw [Du,AN] at h
  have h1:=h.1
  rw [IH,Sx]
  rcases cI h1 with rfl|rfl|rfl|rfl|rfl|rfl|rfl|rfl|rfl
  · exact ⟨_,_,_,rfl,by decide⟩
  · exact ⟨_,_,_,rfl,by decide⟩
  · exact ⟨_,_,_,rfl,by decide⟩
  · simp [DN] at h1;exact ⟨_,_,_,rfl,OM (Vy h1.1) (by decide)⟩
  · simp [DN] at h1;exact ⟨_,_,_,rfl,OM (kX h1.1) (by decide)⟩
  · simp [DN] at h1
    cases l with
    |nil=>simp at h1
    |cons a l=>exact ⟨_,_,_,rfl,by decide⟩
  · exact ⟨_,_,_,rfl,by decide⟩
  · exact ⟨_,_,_,rfl,by decide⟩
  · exact ⟨_,_,_,rfl,by decide⟩
theorem gV {q:Int} {x:Str} {l:List KT} {ks:List KT} (h:ks=(q,x)::l) (k:List KT):hdT (ks++k)=x∧hdK (ks++k)=q:=by
 subst h;exact ⟨rfl,rfl⟩
theorem Uf {α:Type} {m:PM α} {a:α} {q:Int} {x:Str} {l ks:List KT} (h:ks=(q,x)::l):Rd 0 m a ks K:=fun r p k h1 _ hs _=>by
 have:=congrArg Re hs
 rw [Pb,h] at this
 simp at this;omega
theorem JC {α:Type} {m:PM α} {a:α} {ks:List KT} (h:ks≠[]):Rd 0 m a ks K:=by
 cases ks with
 |nil=>exact absurd rfl h
 |cons x l=>exact Uf (q:=x.1) (x:=x.2) (l:=l) rfl
theorem Sm (x y:List KT) (l:List (List KT)):cmK (x::y::l)=x++((5,[44])::cmK (y::l)):=by
 unfold cmK;rw [bI];rfl
theorem Ut (x:List KT):cmK [x]=x:=j4 _ x
theorem oJ:∀(d:Nat) (t:TE),Du d t=true→∀n N,N≤n→Rd N (GB n) t (IH t) noP
 |0,.mk ..,h,_,_,_=>by cases h
 |d+1,.mk k nm l,h,0,N,hN=>by
  obtain ⟨q,x,r,e,_⟩:=fG h
  have:N=0:=by omega
  subst this
  exact Uf e
 |d+1,.mk k nm l,h,n+1,N,hN=>by
  rw [Du,AN,A5] at h
  obtain ⟨h1,h2⟩:=h
  have ih:=fun x (hx:x∈l) M (hM:M+1≤N)=>oJ d x (h2 x hx) n M (by omega)
  have h5:∀k:List KT,noP ((5,[44])::k):=fun k=>by simp [noP,hdT]
  have h6:∀k:List KT,noP ((5,[41])::k):=fun k=>by simp [noP,hdT]
  rw [GB,IH,Sx]
  rcases cI h1 with rfl|rfl|rfl|rfl|rfl|rfl|rfl|rfl|rfl
  · simp [DN] at h1
    obtain ⟨rfl,rfl⟩:=h1
    exact Rd.C5 (fun k _=>by simp [N9,hdK]) (Rd.C5 (fun k _=>by simp [N9,hdK]) (Rd.CO 4 (Rd.pure _)))
  · simp [DN] at h1
    obtain ⟨rfl,rfl⟩:=h1
    exact Rd.C5 (fun k _=>by simp [N9,hdK]) (Rd.C5 (fun k _=>by simp [N9,hdK]) (Rd.BU (fun k _=>by simp [N9,hdT]) (Rd.CO 4 (Rd.pure _))))
  · simp [DN] at h1
    obtain ⟨rfl,rfl⟩:=h1
    exact Rd.C5 (fun k _=>by simp [N9,hdK]) (Rd.C5 (fun k _=>by simp [N9,hdK]) (Rd.BU (fun k _=>by simp [N9,hdT]) (Rd.BU (fun k _=>by simp [N9,hdT]) (Rd.CO 4 (Rd.pure _)))))
  · simp [DN] at h1
    obtain ⟨h1,rfl⟩:=h1
    exact Rd.YJ (Rd.map (fun x=>TE.mk 4 x []) (Rd.take nm))
  · exact Rd.C5 (fun k _=>by simp [N9,hdK]) (Rd.YJ (Rd.C2 (K1:=fun _=>True) (Rd.take nm) (Rd.map (fun l=>TE.mk 5 nm l) ((X8 (N:=N - 1) h5 h6 l (fun x hx M hM=>ih x hx M (by omega))).imp (fun k hk _=>hk))) (fun _ _=>trivial)))
  · simp [DN] at h1
    match l,h1,h2,ih with
    |a::b::l,h1,h2,ih=>
     have hs:N9 6 nm ((a::b::l).map IH)=(5,[40])::(IH a++((5,[44])::(cmK ((b::l).map IH)++[(5,[41])]))):=by
      show ID (cmK (IH a::IH b::l.map IH))=_
      rw [Sm,ID,AT];rfl
     rw [hs,h1.1.1]
     refine Rd.C5 (fun k _=>by simp [hdK]) (Rd.C5 (fun k _=>by simp [hdK]) (Rd.BU (fun k _=>by simp [hdT]) (Rd.BU (fun k _=>by simp [hdT]) (Rd.BU (fun k _=>by simp [hdT]) (Rd.BU (fun k _=>by simp [hdT]) (Rd.BU (fun k _=>by simp [hdT]) (Rd.CO 5 ?_)))))))
     by_cases hN0:N=0
     · subst hN0
       obtain ⟨q,x,r,e,_⟩:=fG (h2 a (by simp))
       refine Uf (q:=q) (x:=x) (l:=r++((5,[44])::(cmK ((b::l).map IH)++[(5,[41])]))) ?_
       rw [e];rfl
     · exact Rd.bind (ih a (by simp) (N - 1) (by omega)) (Rd.C2 (K1:=fun _=>True) (Rd.exp 5) (Rd.map (fun l=>TE.mk 6 [] (a::l)) (Oi h5 h6 (by simp) (fun x hx M hM=>ih x (Ah _ hx) M (by omega)))) (fun _ _=>trivial)) (fun k _=>h5 _)
  · simp [DN] at h1
    obtain ⟨rfl,hl⟩:=h1
    obtain ⟨a,rfl⟩:=Wx hl
    have hs:N9 7 [] ([a].map IH)=(4,[97,114,114,97,121])::(5,[40])::(IH a++[(5,[41])]):=by
     show (4,[97,114,114,97,121])::ID (cmK [IH a])=_
     rw [Ut];rfl
    rw [hs]
    refine Rd.C5 (fun k _=>by simp [hdK]) (Rd.C5 (fun k _=>by simp [hdK]) (Rd.BU (fun k _=>by simp [hdT]) (Rd.BU (fun k _=>by simp [hdT]) (Rd.BU (fun k _=>by simp [hdT]) (Rd.CO 4 (Rd.C2 (K1:=fun _=>True) (Rd.exp 5) ?_ (fun _ _=>trivial)))))))
    by_cases hN0:N=0
    · subst hN0
      obtain ⟨q,x,r,e,_⟩:=fG (h2 a (by simp))
      exact Uf (by rw [e];rfl)
    · exact Rd.bind (ih a (by simp) (N - 1 - 1) (by omega)) (Rd.C2 (K1:=fun _=>True) (Rd.exp 5) (Rd.pure _) (fun _ _=>trivial)) (fun k _=>h6 _)
  · simp [DN] at h1
    obtain ⟨rfl,hl⟩:=h1
    obtain ⟨a,rfl⟩:=Wx hl
    have hs:N9 8 [] ([a].map IH)=(4,[114,101,102])::(5,[40])::(IH a++[(5,[41])]):=by
     show (4,[114,101,102])::ID (cmK [IH a])=_
     rw [Ut];rfl
    rw [hs]
    refine Rd.C5 (fun k _=>by simp [hdK]) (Rd.C5 (fun k _=>by simp [hdK]) (Rd.BU (fun k _=>by simp [hdT]) (Rd.BU (fun k _=>by simp [hdT]) (Rd.BU (fun k _=>by simp [hdT]) (Rd.BU (fun k _=>by simp [hdT]) (Rd.CO 4 (Rd.C2 (K1:=fun _=>True) (Rd.exp 5) ?_ (fun _ _=>trivial))))))))
    by_cases hN0:N=0
    · subst hN0
      obtain ⟨q,x,r,e,_⟩:=fG (h2 a (by simp))
      exact Uf (by rw [e];rfl)
    · exact Rd.bind (ih a (by simp) (N - 1 - 1) (by omega)) (Rd.C2 (K1:=fun _=>True) (Rd.exp 5) (Rd.pure _) (fun _ _=>trivial)) (fun k _=>h6 _)
  · simp [DN] at h1
    obtain ⟨⟨rfl,hl⟩,_⟩:=h1
    obtain ⟨m,x,rfl⟩:=UT hl
    have hs:N9 9 [] ((m++[x]).map IH)=(4,[102,110])::(5,[40])::((cmK (m.map IH)++[(5,[41])])++((5,[45,62])::IH x)):=by
     show (4,[102,110])::(Lv ((m++[x]).map IH).dropLast++((5,[45,62])::((m++[x]).map IH).getLastD []))=_
     simp only [Bn,AD,AG,List.dropLast_concat,List.getLastD_concat]
     rfl
    rw [hs]
    refine Rd.C5 (fun k _=>by simp [hdK]) (Rd.C5 (fun k _=>by simp [hdK]) (Rd.BU (fun k _=>by simp [hdT]) (Rd.BU (fun k _=>by simp [hdT]) (Rd.BU (fun k _=>by simp [hdT]) (Rd.BU (fun k _=>by simp [hdT]) (Rd.BU (fun k _=>by simp [hdT]) (Rd.BU (fun k _=>by simp [hdT]) (Rd.CO 4 (Rd.C2 (K1:=fun _=>True) (Rd.exp 5) ?_ (fun _ _=>trivial))))))))))
    by_cases hN0:N=0
    · subst hN0
      exact JC (by simp)
    · refine Rd.bind (K1:=fun _=>True) (aQ h5 h6 m (fun y hy M hM=>ih y (List.mem_append_left _ hy) M (by omega)) (fun y hy k=>?_)) (Rd.C2 (K1:=fun _=>True) (Rd.exp 5) (Rd.map (fun t=>TE.mk 9 [] (m++[t])) (ih x (by simp) _ (by omega))) (fun _ _=>trivial)) (fun _ _=>trivial)
      obtain ⟨q,z,r,e,hz⟩:=fG (h2 y (List.mem_append_left _ hy))
      rw [(gV e k).1];exact hz
theorem wR {c:CE} (h:Wo c=true) (hN:N≤BE):Rd N eN c (tkC c) noP:=by
 simp only [Wo,AN,A5] at h
 refine Rd.C2 (K1:=fun _=>True) (Rd.take c.name) (Rd.map (fun l=>CE.mk c.name l) ((X8 (Kr:=noP) (fun k=>by simp [noP,hdT]) (fun k=>by simp [noP,hdT]) c.args (fun x hx M hM=>oJ 40 x (h.2 x hx) BE M (by omega))).imp (fun k hk _=>hk))) (fun _ _=>trivial)
theorem sO {d:DE} (h:KG d=true) (hN:N≤BE):Rd N Tp d ((2,d.name)::(VW (d.vars.map fun s=>[(1,s)])++((5,[61])::([((5:Int),[124])].intercalate (d.cons.map tkC)++[(5,[59])])))) K:=by
 simp only [KG,AN,A5,decide_eq_true_eq] at h
 obtain ⟨⟨⟨⟨⟨h1,h2⟩,h3⟩,h4⟩,h5⟩,h6⟩:=h
 have hne:d.cons≠[]:=by intro e;rw [e] at h4;simp at h4
 refine Rd.C2 (K1:=fun _=>True) (Rd.take d.name) (Rd.bind (X8 (Kr:=fun _=>True) (g:=fun s=>[(1,s)]) (fun _=>trivial) (fun _=>trivial) d.vars (fun s hs M _=>Rd.take s)) (Rd.C2 (K1:=fun _=>True) (Rd.exp 5) (Rd.bind (X7 (g:=tkC) (Kr:=noP) (fun k=>by simp [noP,hdT]) hne (fun c hc M hM=>wR (h6 c hc) (by omega))) (Rd.C2 (K1:=fun _=>True) (Rd.exp 5) (Rd.pure _) (fun _ _=>trivial)) (fun k _=>⟨by simp [noP,hdT],by simp [hdT]⟩)) (fun _ _=>trivial)) (fun k _ _=>by simp [hdT])) (fun _ _=>trivial)
end Go.Ab
namespace Go.Ab
variable {N:Nat} {K:List KT→Prop}
def opens:List Str:=[[108,101,116],[105,102],[109,97,116,99,104],[102,110],[116,114,121]]
def Fq (ks:List KT) (b:Prop):Prop:=∃q x l,ks=(q,x)::l∧x≠[41]∧(b→opens.contains x=false)
theorem ABF {x:Str} {l:List Str} (h:OL x=false) (hl:l.all OL=true):l.contains x=false:=by
 rw [F4]
 intro hc
 have hm:x∈l:=by simpa [Dv] using hc
 have:=A5.1 hl x hm
 rw [h] at this;cases this
theorem wM (n:Nat):OL (Lib.decDigits n)=false:=by
 rw [F4]
 intro hw
 obtain ⟨b,l,e,_,h,_⟩:=Sy hw
 have:=gP n b (by rw [e];exact Ad ..)
 simp only [FW] at this
 rw [h] at this;cases this
theorem Fq.par {t:List KT} {b:Prop}:Fq (ID t) b:=⟨_,_,_,rfl,by decide,fun _=>by decide⟩
theorem Fq.app {t k:List KT} {b:Prop} (h:Fq t b):Fq (t++k) b:=by
 obtain ⟨q,x,l,rfl,h1,h2⟩:=h
 exact ⟨q,x,l++k,rfl,h1,h2⟩
theorem Fq.c {q:Int} {x:Str} {l:List KT} {b:Prop} (h1:x≠[41]) (h2:b→opens.contains x=false):Fq ((q,x)::l) b:=⟨q,x,l,rfl,h1,h2⟩
theorem Fq.w {q:Int} {x:Str} {l:List KT} {b:Prop} (h:OL x=false):Fq ((q,x)::l) b:=⟨q,x,l,rfl,OM h (by decide),fun _=>ABF h (by decide)⟩
theorem Fq.plK {d:Nat} {e:Ex} {t:List KT} (hd:1≤d) (h:Fq t (1≤lvl e)) {b:Prop}:Fq (plK d e t) b:=by
 unfold Ab.plK
 split
 · exact Fq.par
 · rename_i hl
   obtain ⟨q,x,l,e1,h1,h2⟩:=h
   exact ⟨q,x,l,e1,h1,fun _=>h2 (by omega)⟩
theorem eM (u:Int):1≤Ef u:=by
 unfold Ef;split
 · omega
 · split<;>omega
theorem wJ:∀(s:Nat) (e:Ex),e.size≤s→e.nb→Fq (tkE e) (1≤lvl e)
 |0,e,hs,_=>by have:=e.size_pos;omega
 |s+1,.mk o n u ns ks al,hs,h=>by
  rw [Ex.nb,Ex.OG] at h
  obtain ⟨hn,hk,_⟩:=h
  have ih:∀x∈ks,Fq (tkE x) (1≤lvl x):=fun x hx=>wJ s x (by have:=Ex.Ka hx;simp only [Ex.size] at hs;omega) (hk x hx)
  simp only [HT,AN] at hn
  obtain ⟨⟨⟨⟨hnm,hnu⟩,hns⟩,has⟩,hnk⟩:=hn
  rw [tkE,N8,N7]
  rcases kH hnk with rfl|rfl|rfl|rfl|rfl|rfl|rfl|rfl|rfl|rfl|rfl|rfl|rfl|rfl|rfl|rfl|rfl
  · exact Fq.c (by decide) (fun _=>by decide)
  · show Fq (if u=1 then [(4,[116,114,117,101])] else [(4,[102,97,108,115,101])]) _
    split
    · exact Fq.c (by decide) (fun _=>by decide)
    · exact Fq.c (by decide) (fun _=>by decide)
  · show Fq (Tt u) _
    unfold Tt
    split
    · exact Fq.c (by decide) (fun _=>by decide)
    · exact Fq.w (wM _)
  · exact Fq.w (Vy (by simpa [nmB] using hnm))
  · exact Fq.par
  · exact Fq.w (kX (by simpa [nmB] using hnm))
  · exact Fq.c (by decide) (fun hl=>by simp [lvl] at hl)
  · exact Fq.c (by decide) (fun hl=>by simp [lvl] at hl)
  · exact Fq.c (by decide) (fun hl=>by simp [lvl] at hl)
  · exact Fq.c (by decide) (fun hl=>by simp [lvl] at hl)
  · exact Fq.c (by decide) (fun hl=>by simp [lvl] at hl)
  · cases ks with
    |nil=>simp [nkB] at hnk
    |cons f l=>
     show Fq ((if Ms f then ID (tkE f) else plK 4 f (tkE f))++Lv (l.map tkE)) _
     refine Fq.app ?_
     split
     · exact Fq.par
     · exact Fq.plK (by omega) (ih f (by simp))
  · obtain ⟨a,b,rfl⟩:=TN (by simpa [nkB] using hnk)
    exact (Fq.plK (by have:=eM u;split<;>omega) (ih a (by simp))).app
  · show Fq ((4,prT u)::Lv (ks.map tkE)) _
    unfold prT
    repeat' split
    all_goals exact Fq.c (by decide) (fun _=>by decide)
  · exact Fq.c (by decide) (fun _=>by decide)
  · exact Fq.c (by decide) (fun _=>by decide)
  · exact Fq.c (by decide) (fun hl=>by simp [lvl] at hl)
theorem xT {e:Ex} (h:e.nb):Fq (tkE e) (1≤lvl e):=wJ e.size e (A8 _) h
theorem pP {e:Ex} (h:e.nb) (k:List KT):hdT (tkE e++k)≠[41]:=by
 obtain ⟨q,x,l,e1,h1,_⟩:=xT h
 rw [(gV e1 k).1];exact h1
theorem j1 {e:Ex} (h:e.nb):tkE e≠[]:=by
 obtain ⟨q,x,l,e1,_⟩:=xT h
 rw [e1];simp
def Gs (N:Nat) (m m':PM Ex) (ks:List KT) (K:List KT→Prop):Prop:=
 ∀r p k,r.length≤N→r.length≤17000→strip r=ks++k→K k→m.run ⟨r,false,p⟩=m'.run ⟨r.drop ks.length,false,p⟩
theorem Gs.refl (m:PM Ex):Gs N m m [] K:=fun _ _ _ _ _ _ _=>rfl
theorem Gs.bind {α:Type} {m:PM α} {f:α→PM Ex} {m':PM Ex} {a:α} {k1 k2:List KT} {K1:List KT→Prop} (h1:Rd N m a k1 K1) (h2:Gs (N - k1.length) (f a) m' k2 K) (hK:∀k,K k→K1 (k2++k)):Gs N (m.bind f) m' (k1++k2) K:=fun r p k hN hL hs hk=>by
 rw [AT] at hs
 have e1:=h1 r p (k2++k) hN hL hs (hK k hk)
 have e2:=h2 (r.drop k1.length) p k (by rw [Aj];omega) (by rw [Aj];omega) (Kk hs) hk
 show (f (m.run ⟨r,false,p⟩).1).run (m.run ⟨r,false,p⟩).2=_
 rw [e1]
 show (f a).run ⟨r.drop k1.length,false,p⟩=_
 rw [e2,Cv,AA]
theorem Gs.last {α:Type} {m:PM α} {f:α→PM Ex} {a:α} {k1:List KT} (h1:Rd N m a k1 K):Gs N (m.bind f) (f a) k1 K:=by
 have:=Gs.bind (m':=f a) (K:=K) h1 (Gs.refl (f a)) (fun k h=>h)
 rwa [AZ] at this
theorem Gs.CO {t:Str} {ht:t≠[]} {y n m':PM Ex} {ks:List KT} (q:Int) (h:Gs (N - 1) y m' ks K):Gs N (.acc t ht y n) m' ((q,t)::ks) K:=fun r p k hN hL hs hk=>by
 have hh:=(G9 hs).1
 rw [q9 (by rw [hh];simp [hdT])]
 have e:=h r.tail p k (by rw [List.length_tail];omega) (by rw [List.length_tail];omega) (by have:=Kk (ks:=[(q,t)]) hs;simpa using this) hk
 rw [e,AE,← List.drop_one,Cv,Nat.add_comm]
theorem Gs.BU {t:Str} {ht:t≠[]} {y n m':PM Ex} {ks:List KT} (hn:∀k,K k→hdT (ks++k)≠t) (h:Gs N n m' ks K):Gs N (.acc t ht y n) m' ks K:=fun r p k hN hL hs hk=>by
 have hh:=(G9 hs).1
 rw [SW (by rw [hh];simpa using hn k hk)]
 exact h r p k hN hL hs hk
theorem Ac.of {m:PM Ex} {c:Nat→Ex→PM Ex} {e:Ex} {ks:List KT} (h:Rd N m e ks K):Ac N (m.bind fun a=>c BE a) c e ks K:=⟨0,CS _,Gs.last (f:=fun a=>c BE a) h⟩
theorem Ac.step {m:PM Ex} {c:Nat→Ex→PM Ex} {a e:Ex} {k1 k2:List KT} {K1:List KT→Prop} (h1:Ac N m c a k1 K1) (h2:∀n,Gs (N - k1.length) (c (n+1) a) (c n e) k2 K) (hk2:k2≠[]) (hK:∀k,K k→K1 (k2++k)):Ac N m c e (k1++k2) K:=by
 obtain ⟨j,hj,h1⟩:=h1
 have hl2:1≤k2.length:=Ar.2 hk2
 refine ⟨j+1,by rw [AA];omega,fun r p k hN hL hs hk=>?_⟩
 have hsl:=congrArg Re hs
 rw [Pb,AA,AA] at hsl
 rw [AT] at hs
 have e1:=h1 r p (k2++k) hN hL hs (hK k hk)
 have hf:=Fk
 have e2:=h2 (BE - (j+1)) (r.drop k1.length) p k (by rw [Aj];omega) (by rw [Aj];omega) (Kk hs) hk
 rw [e1,show BE - j=BE - (j+1)+1 by omega,e2,Cv,AA]
theorem Ac.fin {m:PM Ex} {c:Nat→Ex→PM Ex} {e:Ex} {ks:List KT} {K':List KT→Prop} (h:Ac N m c e ks K) (hK:∀k,K' k→K k) (hc:∀n r p,K' (strip r)→(c n e).run ⟨r,false,p⟩=(e,⟨r,false,p⟩)):Rd N m e ks K':=by
 obtain ⟨j,_,h⟩:=h
 intro r p k hN hL hs hk
 rw [h r p k hN hL hs (hK k hk)]
 exact hc _ _ _ (by rw [Kk hs];exact hk)
theorem Ac.imp {m:PM Ex} {c:Nat→Ex→PM Ex} {e:Ex} {ks:List KT} {K':List KT→Prop} (h:Ac N m c e ks K) (hK:∀k,K' k→K k):Ac N m c e ks K':=by
 obtain ⟨j,hj,h⟩:=h
 exact ⟨j,hj,fun r p k hN hL hs hk=>h r p k hN hL hs (hK k hk)⟩
theorem O2 {l:List Str} {k:List KT} (h:noT l k) {t:Str} (ht:l.contains t=true):hdT k≠t:=fun e=>by
 unfold noT at h;rw [e,ht] at h;cases h
theorem Ox (r:List Tok):(r.headD U8).text=hdT (strip r):=(G9 rfl).1
theorem Zb {E:PM Ex}:∀n e r p,hdT (strip r)≠[40]→(UA E n e).run ⟨r,false,p⟩=(e,⟨r,false,p⟩)
 |0,e,r,p,_=>rfl
 |n+1,e,r,p,h=>by
  rw [UA,SW (by rw [Ox];simpa using h)];rfl
def sPr:List Str:=[[40],[42],[47],[37]]
def sSu:List Str:=[[40],[42],[47],[37],[43],[45]]
def sEx:List Str:=[[40],[42],[47],[37],[43],[45],[60],[60,61],[61,61]]
theorem VU {l m:List Str} (hs:m.all (fun t=>l.contains t)=true) {k:List KT} (h:noT l k):noT m k:=by
 unfold noT at h ⊢
 rw [F4] at h ⊢
 intro hc
 have hm:hdT k∈m:=by simpa [Dv] using hc
 exact h (A5.1 hs _ hm)
theorem YY {E:PM Ex}:∀n e r p,noT sPr (strip r)→(KU E n e).run ⟨r,false,p⟩=(e,⟨r,false,p⟩)
 |0,e,r,p,_=>rfl
 |n+1,e,r,p,h=>by
  rw [KU,SW (by rw [Ox];simpa using O2 h (t:=[42]) (by decide)),SW (by rw [Ox];simpa using O2 h (t:=[47]) (by decide)),SW (by rw [Ox];simpa using O2 h (t:=[37]) (by decide))];rfl
theorem n6 {E:PM Ex}:∀n e r p,noT sSu (strip r)→(TX E n e).run ⟨r,false,p⟩=(e,⟨r,false,p⟩)
 |0,e,r,p,_=>rfl
 |n+1,e,r,p,h=>by
  rw [TX,SW (by rw [Ox];simpa using O2 h (t:=[43]) (by decide)),SW (by rw [Ox];simpa using O2 h (t:=[45]) (by decide))];rfl
def HE (E:PM Ex) (N:Nat):Prop:=∀x:Ex,x.nb→∀M,M+1≤N→Rd M E x (tkE x) (noT sEx)
theorem HE.mono {E:PM Ex} {M:Nat} (h:HE E N) (hM:M≤N):HE E M:=fun x hx M' h'=>h x hx M' (by omega)
theorem Y1 (k:List KT):noT sEx ((5,[41])::k):=by show sEx.contains [41]=false;decide
theorem Xp (k:List KT):noT sEx ((5,[44])::k):=by show sEx.contains [44]=false;decide
theorem X9 {E:PM Ex} (hE:HE E N) {e:Ex} (h:e.nb):Rd N (Ip E) e (ID (tkE e)) K:=by
 by_cases hN:N=0
 · subst hN;exact JC (by simp [ID])
 unfold ID Ip
 iterate 3 refine Rd.C5 (fun k _=>by simp [hdK]) ?_
 iterate 3 refine Rd.BU (fun k _=>by simp [hdT]) ?_
 refine Rd.CO 5 ?_
 unfold bZ
 refine Rd.BU (fun k _=>by rw [AT];exact pP h _) ?_
 exact Rd.bind (hE e h (N - 1) (by omega)) (Rd.CO 5 (Rd.pure e)) (fun k _=>Y1 k)
theorem bU {o u:Int} {n:Str} {ns:List Str} {ks:List Ex} {al:List Al} (h:(Ex.mk o n u ns ks al).nb):nmB o n=true∧nuB o u=true∧nsB o ns=true∧asB o al=true∧nkB o u ks.length=true∧(∀x∈ks,x.nb)∧∀a∈al,a.nb:=by
 rw [Ex.nb,Ex.OG,Al.OG] at h
 obtain ⟨hn,hk,ha⟩:=h
 simp only [HT,AN] at hn
 obtain ⟨⟨⟨⟨hnm,hnu⟩,hns⟩,has⟩,hnk⟩:=hn
 exact ⟨hnm,hnu,hns,has,hnk,hk,ha⟩
theorem Ue {E:PM Ex} (hE:HE E N) {a:Ex} (h:a.nb):Rd N (O4 E) [a] (Lv [tkE a]) K:=by
 unfold Lv;rw [Ut];unfold ID O4
 by_cases hN:N=0
 · subst hN;exact JC (by simp)
 exact Rd.C2 (K1:=fun _=>True) (Rd.exp 5) (Rd.bind (hE a h _ (by omega)) (Rd.C2 (K1:=fun _=>True) (Rd.exp 5) (Rd.pure _) (fun _ _=>trivial)) (fun k _=>Y1 k)) (fun _ _=>trivial)
theorem X6 {E:PM Ex} (hE:HE E N) {a b:Ex} (h:a.nb) (h2:b.nb):Rd N (SS E) [a,b] (Lv [tkE a,tkE b]) K:=by
 unfold Lv;rw [Sm,Ut];unfold ID SS
 by_cases hN:N=0
 · subst hN;exact JC (by simp)
 rw [AT,AX]
 exact Rd.C2 (K1:=fun _=>True) (Rd.exp 5) (Rd.bind (hE a h _ (by omega)) (Rd.C2 (K1:=fun _=>True) (Rd.exp 5) (Rd.bind (hE b h2 _ (by omega)) (Rd.C2 (K1:=fun _=>True) (Rd.exp 5) (Rd.pure _) (fun _ _=>trivial)) (fun k _=>Y1 k)) (fun _ _=>trivial)) (fun k _=>Xp _)) (fun _ _=>trivial)
theorem oI {E:PM Ex} (hE:HE E N) {a b c:Ex} (h:a.nb) (h2:b.nb) (h3:c.nb):Rd N (bY E) [a,b,c] (Lv [tkE a,tkE b,tkE c]) K:=by
 unfold Lv;rw [Sm,Sm,Ut];unfold ID bY
 by_cases hN:N=0
 · subst hN;exact JC (by simp)
 rw [AT,AX,AT,AX]
 exact Rd.C2 (K1:=fun _=>True) (Rd.exp 5) (Rd.bind (hE a h _ (by omega)) (Rd.C2 (K1:=fun _=>True) (Rd.exp 5) (Rd.bind (hE b h2 _ (by omega)) (Rd.C2 (K1:=fun _=>True) (Rd.exp 5) (Rd.bind (hE c h3 _ (by omega)) (Rd.C2 (K1:=fun _=>True) (Rd.exp 5) (Rd.pure _) (fun _ _=>trivial)) (fun k _=>Y1 k)) (fun _ _=>trivial)) (fun k _=>Xp _)) (fun _ _=>trivial)) (fun k _=>Xp _)) (fun _ _=>trivial)
theorem aR {n:Nat} (h:n≤1000000):Rd N Jn (n:Int) [(3,Lib.decDigits n)] K:=by
 have:=Rd.map (N:=N) (K:=K) RP (Rd.take (hq:=by decide) (q:=3) (Lib.decDigits n))
 rw [uU h] at this
 exact this
theorem sP {E:PM Ex} (hE:HE E N) {e:Ex} (h:e.nb) (hl:lvl e=5):Rd N (Ip E) e (tkE e) (fun k=>Ms e=true→hdT k≠[40]):=by
 by_cases hN:N=0
 · subst hN;exact JC (j1 h)
 obtain ⟨o,n,u,ns,ks,al⟩:=e
 obtain ⟨hnm,hnu,hns,has,hnk,hk,-⟩:=bU h
 rw [tkE,N8,N7]
 rcases kH hnk with rfl|rfl|rfl|rfl|rfl|rfl|rfl|rfl|rfl|rfl|rfl|rfl|rfl|rfl|rfl|rfl|rfl
 · simp [nmB,nuB,nsB,asB,nkB] at hnm hnu hns has hnk
   subst hnm hnu hns has hnk
   unfold Ip
   iterate 3 refine Rd.C5 (fun k _=>by simp [tkN,hdK]) ?_
   iterate 3 refine Rd.BU (fun k _=>by simp [tkN,hdT]) ?_
   refine Rd.CO 5 ?_
   unfold bZ
   exact Rd.CO 5 (Rd.pure _)
 · simp [nmB,nuB,nsB,asB,nkB] at hnm hnu hns has hnk
   subst hnm hns has hnk
   have hu:u=1∨u=0:=by omega
   unfold Ip
   rcases hu with rfl|rfl
   · iterate 3 refine Rd.C5 (fun k _=>by simp [tkN,hdK]) ?_
     iterate 1 refine Rd.BU (fun k _=>by simp [tkN,hdT]) ?_
     exact Rd.CO 4 (Rd.pure _)
   · iterate 3 refine Rd.C5 (fun k _=>by simp [tkN,hdK]) ?_
     iterate 2 refine Rd.BU (fun k _=>by simp [tkN,hdT]) ?_
     exact Rd.CO 4 (Rd.pure _)
 · simp [nmB,nuB,nsB,asB,nkB] at hnm hnu hns has hnk
   subst hnm hns has hnk
   show Rd N (Ip E) _ (Tt u) _
   unfold Tt Ip
   split
   · rename_i hu
     iterate 3 refine Rd.C5 (fun k _=>by simp [hdK]) ?_
     have e1:u=-((u.natAbs:Nat):Int):=by omega
     refine Rd.CO 5 ?_
     have:=Rd.map (K:=fun k=>Ms (.mk 3 [] u [] [] [])=true→hdT k≠[40]) (fun n=>exN 3 (-n) []) (aR (N:=N - 1) (n:=u.natAbs) (by omega))
     rw [← e1] at this
     exact this
   · rename_i hu
     have e1:u=((u.toNat:Nat):Int):=by omega
     refine Rd.YJ ?_
     have:=Rd.map (K:=fun k=>Ms (.mk 3 [] u [] [] [])=true→hdT k≠[40]) (fun n=>exN 3 n []) (aR (N:=N) (n:=u.toNat) (by omega))
     rw [← e1] at this
     exact this
 · simp [nmB,nuB,nsB,asB,nkB] at hnm hnu hns has hnk
   subst hnu hns has hnk
   unfold Ip
   refine Rd.C5 (fun k _=>by simp [tkN,hdK]) ?_
   exact Rd.YJ (Rd.map (fun x=>Ex.mk 4 x 0 [] [] []) (Rd.take n))
 · simp [nmB,nuB,nsB,asB,nkB] at hnm hnu hns has hnk
   subst hnm hnu hns has
   match ks,hnk,hk with
   |a::b::l,_,hk=>
    have hs:tkN 5 [] 0 [] (a::b::l) ((a::b::l).map tkE) ([].map tkA)=(5,[40])::(tkE a++((5,[44])::(cmK ((b::l).map tkE)++[(5,[41])]))):=by
     show ID (cmK (tkE a::tkE b::l.map tkE))=_
     rw [Sm,ID,AT];rfl
    rw [hs]
    unfold Ip
    iterate 3 refine Rd.C5 (fun k _=>by simp [hdK]) ?_
    iterate 3 refine Rd.BU (fun k _=>by simp [hdT]) ?_
    refine Rd.CO 5 ?_
    unfold bZ
    refine Rd.BU (fun k _=>by rw [AT];exact pP (hk a (by simp)) _) ?_
    refine Rd.bind (hE a (hk a (by simp)) _ (by omega)) (Rd.BU (fun k _=>by simp [hdT]) (Rd.C2 (K1:=fun _=>True) (Rd.exp 5) (Rd.map (fun l=>exN 5 0 (a::l)) (Oi (Kr:=noT sEx) Xp Y1 (by simp) (fun x hx M hM=>hE x (hk x (Ah _ hx)) M (by omega)))) (fun _ _=>trivial))) (fun k _=>Xp _)
 · simp [nmB,nuB,nsB,asB,nkB] at hnm hnu hns has hnk
   subst hnu hns has
   unfold Ip
   iterate 2 refine Rd.C5 (fun k _=>by simp [tkN,hdK]) ?_
   refine Rd.YJ (Rd.C2 (K1:=fun _=>True) (Rd.take n) (Rd.map (fun l=>Ex.mk 6 n 0 [] l []) ((X8 (N:=N - 1) (Kr:=noT sEx) Xp Y1 ks (fun x hx M hM=>hE x (hk x hx) M (by omega))).imp (fun k hb hks=>hb (by simp [Ms,hks])))) (fun _ _=>trivial))
 · simp [lvl] at hl
 · simp [lvl] at hl
 · simp [lvl] at hl
 · simp [lvl] at hl
 · simp [lvl] at hl
 · simp [lvl] at hl
 · exfalso
   have:Ef u=5:=hl
   unfold Ef at this;split at this
   · omega
   · split at this<;>omega
 · simp [nmB,nuB,nsB,asB,nkB] at hnm hnu hns has hnk
   subst hnm hns has
   have hu:u=1∨u=2∨u=3∨u=4∨u=5∨u=6∨u=7:=by omega
   unfold Ip
   rcases hu with rfl|rfl|rfl|rfl|rfl|rfl|rfl
   · obtain ⟨a,b,rfl⟩:=TN (by simpa [Iq] using hnk)
     iterate 3 refine Rd.C5 (fun k _=>by simp [tkN,prT,hdK]) ?_
     iterate 6 refine Rd.BU (fun k _=>by simp [tkN,prT,hdT]) ?_
     exact Rd.CO 4 (Rd.map (fun l=>exN 14 1 l) (X6 (hE.mono (by omega)) (hk a (by simp)) (hk b (by simp))))
   · obtain ⟨a,b,rfl⟩:=TN (by simpa [Iq] using hnk)
     iterate 3 refine Rd.C5 (fun k _=>by simp [tkN,prT,hdK]) ?_
     iterate 7 refine Rd.BU (fun k _=>by simp [tkN,prT,hdT]) ?_
     exact Rd.CO 4 (Rd.map (fun l=>exN 14 2 l) (X6 (hE.mono (by omega)) (hk a (by simp)) (hk b (by simp))))
   · obtain ⟨a,b,c,rfl⟩:=hJ (by simpa [Iq] using hnk)
     iterate 3 refine Rd.C5 (fun k _=>by simp [tkN,prT,hdK]) ?_
     iterate 8 refine Rd.BU (fun k _=>by simp [tkN,prT,hdT]) ?_
     exact Rd.CO 4 (Rd.map (fun l=>exN 14 3 l) (oI (hE.mono (by omega)) (hk a (by simp)) (hk b (by simp)) (hk c (by simp))))
   · obtain ⟨a,rfl⟩:=Wx (by simpa [Iq] using hnk)
     iterate 3 refine Rd.C5 (fun k _=>by simp [tkN,prT,hdK]) ?_
     iterate 9 refine Rd.BU (fun k _=>by simp [tkN,prT,hdT]) ?_
     exact Rd.CO 4 (Rd.map (fun l=>exN 14 4 l) (Ue (hE.mono (by omega)) (hk a (by simp))))
   · obtain ⟨a,rfl⟩:=Wx (by simpa [Iq] using hnk)
     iterate 3 refine Rd.C5 (fun k _=>by simp [tkN,prT,hdK]) ?_
     iterate 10 refine Rd.BU (fun k _=>by simp [tkN,prT,hdT]) ?_
     exact Rd.CO 4 (Rd.map (fun l=>exN 14 5 l) (Ue (hE.mono (by omega)) (hk a (by simp))))
   · obtain ⟨a,rfl⟩:=Wx (by simpa [Iq] using hnk)
     iterate 3 refine Rd.C5 (fun k _=>by simp [tkN,prT,hdK]) ?_
     iterate 11 refine Rd.BU (fun k _=>by simp [tkN,prT,hdT]) ?_
     exact Rd.CO 4 (Rd.map (fun l=>exN 14 6 l) (Ue (hE.mono (by omega)) (hk a (by simp))))
   · obtain ⟨a,b,rfl⟩:=TN (by simpa [Iq] using hnk)
     iterate 3 refine Rd.C5 (fun k _=>by simp [tkN,prT,hdK]) ?_
     iterate 12 refine Rd.BU (fun k _=>by simp [tkN,prT,hdT]) ?_
     exact Rd.CO 4 (Rd.map (fun l=>exN 14 7 l) (X6 (hE.mono (by omega)) (hk a (by simp)) (hk b (by simp))))
 · simp [nmB,nuB,nsB,asB,nkB] at hnm hnu hns has hnk
   subst hnm hns has hnk
   show Rd N (Ip E) _ ((4,[116,105,99,107])::(5,[40])::(Tt u++[(5,[41])])) _
   unfold Ip
   iterate 3 refine Rd.C5 (fun k _=>by simp [hdK]) ?_
   iterate 4 refine Rd.BU (fun k _=>by simp [hdT]) ?_
   refine Rd.CO 4 (Rd.C2 (K1:=fun _=>True) (Rd.exp 5) (Rd.bind (K1:=fun _=>True) (a:=u) ?_ (Rd.C2 (K1:=fun _=>True) (Rd.exp 5) (Rd.pure _) (fun _ _=>trivial)) (fun _ _=>trivial)) (fun _ _=>trivial))
   unfold Tt
   split
   · have e1:u=-((u.natAbs:Nat):Int):=by omega
     refine Rd.CO 5 ?_
     have:=Rd.map (K:=fun _=>True) (fun n=>-n) (aR (N:=N - 1 - 1 - 1) (n:=u.natAbs) (by omega))
     rw [← e1] at this
     exact this
   · have e1:u=((u.toNat:Nat):Int):=by omega
     refine Rd.BU (fun k _=>OM (wM _) (by decide)) ?_
     have:=aR (N:=N - 1 - 1) (K:=fun _=>True) (n:=u.toNat) (by omega)
     rw [← e1] at this
     exact this
 · simp [nmB,nuB,nsB,asB,nkB] at hnm hnu hns has hnk
   subst hnm hnu hns has
   obtain ⟨a,rfl⟩:=Wx hnk
   unfold Ip
   iterate 3 refine Rd.C5 (fun k _=>by simp [tkN,hdK]) ?_
   iterate 5 refine Rd.BU (fun k _=>by simp [tkN,hdT]) ?_
   exact Rd.CO 4 (Rd.map (fun l=>exN 16 0 l) (Ue (hE.mono (by omega)) (hk a (by simp))))
 · simp [lvl] at hl
end Go.Ab
