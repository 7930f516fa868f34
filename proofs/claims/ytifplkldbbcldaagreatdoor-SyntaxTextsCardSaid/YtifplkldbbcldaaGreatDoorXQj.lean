/- Reading the tokens of a formatted text back, in plain data: the rules. Reading the tokens of a formatted text back, in plain data: types. Reading the tokens of a formatted text back, in plain data: expressions. Conditions: none. -/
import Derived.Test.YtifplkldbbcldaaGreatDoorXQg
set_option linter.unusedSimpArgs false
set_option linter.unusedVariables false
set_option maxRecDepth 4000
set_option maxHeartbeats 8000000
open Nat renaming le_trans→At,le_refl→A7,zero_le→CB
open List renaming append_assoc→AS,length_drop→Ah,drop_drop→Cb,length_append→AA,append_nil→A1,length_cons→AD,map_cons→AE,flatten_cons→CZ,mem_cons_of_mem→Ae,mem_cons_self→A9,length→Ps,all_eq_true→A4,map_append→Bc,map_nil→AH,contains_eq_mem→D4,length_pos_iff→Ap,cons_append→AX
open Bool renaming or_true→NH,or_eq_true→BJ,and_eq_true→AK,eq_false_iff→GJ
namespace Go.Ab
def hdT (k:List KT):Str:=(k.headD (6,[])).2
def hdK (k:List KT):Int:=(k.headD (6,[])).1
def noT (l:List Str) (k:List KT):Prop:=l.contains (hdT k)=false
def Rd {α:Type} (N:Nat) (m:PM α) (a:α) (ks:List KT) (K:List KT→Prop):Prop:=
 ∀r p k,r.length≤N→r.length≤17000→strip r=ks++k→K k→m.run ⟨r,false,p⟩=(a,⟨r.drop ks.length,false,p⟩)
def Ac (N:Nat) (m:PM Ex) (c:Nat→Ex→PM Ex) (e:Ex) (ks:List KT) (K:List KT→Prop):Prop:=
 ∃j,j≤ks.length∧∀r p k,r.length≤N→r.length≤17000→strip r=ks++k→K k→m.run ⟨r,false,p⟩=(c (BB - j) e).run ⟨r.drop ks.length,false,p⟩
variable {α β:Type} {N:Nat} {K:List KT→Prop}
theorem Ny (r:List Tok):(strip r).length=r.length:=by simp [strip]
theorem J8 {r:List Tok} {ks k:List KT} (h:strip r=ks++k):strip (r.drop ks.length)=k:=by
 have:=congrArg (List.drop ks.length) h
 rw [List.drop_left] at this
 rw [← this,strip,strip,List.map_drop]
theorem Fu {r:List Tok} {k:List KT} (h:strip r=k):(r.headD Sk).text=hdT k∧(r.headD Sk).kind=hdK k:=by
 subst h
 cases r with
 |nil=>exact ⟨rfl,rfl⟩
 |cons t l=>exact ⟨rfl,rfl⟩
theorem Rd.mono {m:PM α} {a:α} {ks:List KT} {M:Nat} (h:Rd N m a ks K) (hM:M≤N):Rd M m a ks K:=fun r p k h1=>h r p k (At h1 hM)
theorem Rd.imp {m:PM α} {a:α} {ks:List KT} {K':List KT→Prop} (h:Rd N m a ks K) (hK:∀k,K' k→K k):Rd N m a ks K':=fun r p k h1 h2 h3 h4=>h r p k h1 h2 h3 (hK k h4)
theorem Rd.pure (a:α):Rd N (.pure a) a [] K:=fun _ _ _ _ _ _ _=>rfl
theorem Rd.bind {m:PM α} {f:α→PM β} {a:α} {b:β} {k1 k2:List KT} {K1:List KT→Prop} (h1:Rd N m a k1 K1) (h2:Rd (N - k1.length) (f a) b k2 K) (hK:∀k,K k→K1 (k2++k)):Rd N (m.bind f) b (k1++k2) K:=fun r p k hN hL hs hk=>by
 rw [AS] at hs
 have e1:=h1 r p (k2++k) hN hL hs (hK k hk)
 have e2:=h2 (r.drop k1.length) p k (by rw [Ah];omega) (by rw [Ah];omega) (J8 hs) hk
 show (f (m.run ⟨r,false,p⟩).1).run (m.run ⟨r,false,p⟩).2=_
 rw [e1]
 show (f a).run ⟨r.drop k1.length,false,p⟩=_
 rw [e2,Cb,AA]
theorem Rd.CM {m:PM α} {f:α→PM β} {a:α} {b:β} {q:KT} {k2:List KT} {K1:List KT→Prop} (h1:Rd N m a [q] K1) (h2:Rd (N - 1) (f a) b k2 K) (hK:∀k,K k→K1 (k2++k)):Rd N (m.bind f) b (q::k2) K:=Rd.bind h1 h2 hK
theorem Rd.map {m:PM α} {a:α} {ks:List KT} (g:α→β) (h:Rd N m a ks K):Rd N (m.map g) (g a) ks K:=by
 have:=Rd.bind (f:=fun a=>PM.pure (g a)) h (Rd.pure (K:=K) (g a)) (fun k h=>h)
 rwa [A1] at this
theorem Rd.Bz {t:Str} {ht:t≠[]} {y n:PM α} {a:α} {ks:List KT} (q:Int) (h:Rd (N - 1) y a ks K):Rd N (.acc t ht y n) a ((q,t)::ks) K:=fun r p k hN hL hs hk=>by
 have hh:=(Fu hs).1
 rw [lZ (by rw [hh];simp [hdT])]
 have e:=h r.tail p k (by rw [List.length_tail];omega) (by rw [List.length_tail];omega) (by have:=J8 (ks:=[(q,t)]) hs;simpa using this) hk
 rw [e,AD,← List.drop_one,Cb,Nat.add_comm]
theorem Rd.BR {t:Str} {ht:t≠[]} {y n:PM α} {a:α} {ks:List KT} (hn:∀k,K k→hdT (ks++k)≠t) (h:Rd N n a ks K):Rd N (.acc t ht y n) a ks K:=fun r p k hN hL hs hk=>by
 have hh:=(Fu hs).1
 rw [Q6 (by rw [hh];simpa using hn k hk)]
 exact h r p k hN hL hs hk
theorem Rd.Vx {k0:Int} {y n:PM α} {a:α} {t:Str} {ks:List KT} (h:Rd N y a ((k0,t)::ks) K):Rd N (.kind k0 y n) a ((k0,t)::ks) K:=fun r p k hN hL hs hk=>by
 have hh:=(Fu hs).2
 have e:(PM.kind k0 y n).run ⟨r,false,p⟩=y.run ⟨r,false,p⟩:=if_pos (by rw [PSt.hd,hh];simp [hdK])
 rw [e];exact h r p k hN hL hs hk
theorem Rd.CN {k0:Int} {y n:PM α} {a:α} {ks:List KT} (hn:∀k,K k→hdK (ks++k)≠k0) (h:Rd N n a ks K):Rd N (.kind k0 y n) a ks K:=fun r p k hN hL hs hk=>by
 have hh:=(Fu hs).2
 have e:(PM.kind k0 y n).run ⟨r,false,p⟩=n.run ⟨r,false,p⟩:=if_neg (by rw [PSt.hd,hh];simpa using hn k hk)
 rw [e];exact h r p k hN hL hs hk
theorem drop1 (r:List Tok):r.drop 1=r.tail:=List.drop_one
theorem Rd.exp {t:Str} {ht:t≠[]} (q:Int):Rd N (PM.exp t ht) () [(q,t)] K:=fun r p k _ _ hs _=>by
 have hh:=(Fu hs).1
 have e:(PM.exp t ht).run ⟨r,false,p⟩=((),⟨r.tail,false,p⟩):=if_pos (by simp only [PSt.hd,hh];simp [hdT])
 rw [e,← drop1];rfl
theorem Rd.take {q:Int} {hq:q≠6} (s:Str):Rd N (PM.take q hq) s [(q,s)] K:=fun r p k _ _ hs _=>by
 obtain ⟨h1,h2⟩:=Fu hs
 have e:(PM.take q hq).run ⟨r,false,p⟩=((r.headD Sk).text,⟨r.tail,false,p⟩):=if_pos (by simp only [PSt.hd,h2];simp [hdK])
 rw [e,h1,← drop1];rfl
def YA (sep:Str) (g:α→List KT) (xs:List α):List KT:=(xs.map fun x=>(5,sep)::g x).flatten
theorem Vu (sep:Str) (g:α→List KT):∀(x:α) (xs:List α),[((5:Int),sep)].intercalate ((x::xs).map g)=g x++YA sep g xs
 |x,[]=>by simp [YA]
 |x,y::xs=>by
  have ih:=Vu sep g y xs
  simp only [AE] at ih ⊢
  rw [YZ,ih]
  simp [YA]
theorem YB (sep:Str) (g:α→List KT):∀xs:List α,xs.length≤(YA sep g xs).length
 |[]=>A7 _
 |x::xs=>by
  have:=YB sep g xs
  simp only [YA,AE,CZ,AA,AD] at this ⊢;omega
theorem X1 {read:PM α} {sep:Str} {hsep:sep≠[]} {g:α→List KT} {Kr:List KT→Prop} (h5:∀k,Kr ((5,sep)::k)):∀(xs:List α) (n:Nat) (acc:List α) (N:Nat),xs.length≤n→(∀x∈xs,∀M,M≤N→Rd M read x (g x) Kr)→Rd N (Dw read sep hsep n acc) (acc++xs) (YA sep g xs) (fun k=>Kr k∧hdT k≠sep)
 |[],n,acc,N,_,_=>by
  rw [A1]
  cases n with
  |zero=>exact Rd.pure _
  |succ n=>exact Rd.BR (fun k hk=>hk.2) (Rd.pure _)
 |x::xs,0,acc,N,h,_=>by simp at h
 |x::xs,n+1,acc,N,h,hr=>by
  have ih:=X1 (hsep:=hsep) h5 xs n (acc++[x]) (N - 1 - (g x).length) (by simp at h;omega) (fun y hy M hM=>hr y (Ae _ hy) M (by omega))
  rw [AS] at ih
  refine Rd.Bz 5 (Rd.bind (hr x (A9 ..) (N - 1) (by omega)) ih (fun k hk=>?_))
  cases xs with
  |nil=>exact hk.1
  |cons y ys=>exact h5 _
theorem V2 {read:PM α} {sep:Str} {hsep:sep≠[]} {g:α→List KT} {Kr:List KT→Prop} (h5:∀k,Kr ((5,sep)::k)) {xs:List α} (hne:xs≠[]) (hr:∀x∈xs,∀M,M≤N→Rd M read x (g x) Kr):Rd N (items read sep hsep) xs ([((5:Int),sep)].intercalate (xs.map g)) (fun k=>Kr k∧hdT k≠sep):=by
 cases xs with
 |nil=>exact absurd rfl hne
 |cons x xs=>
  rw [Vu]
  intro r p k hN hL hs hk
  have hlen:xs.length≤BB:=by
   have h1:=YB sep g xs
   have h2:=congrArg Ps hs
   rw [Ny,AA,AA] at h2
   have:=FC
   omega
  refine Rd.bind (K1:=Kr) (hr x (A9 ..) N (A7 _)) (X1 h5 xs BB [x] (N - (g x).length) hlen (fun y hy M hM=>hr y (Ae _ hy) M (by omega))) (fun k hk=>?_) r p k hN hL hs hk
  cases xs with
  |nil=>exact hk.1
  |cons y ys=>exact h5 _
theorem NM {read:PM α} {g:α→List KT} {Kr:List KT→Prop} (h5:∀k,Kr ((5,[44])::k)) (h6:∀k,Kr ((5,[41])::k)) {xs:List α} (hne:xs≠[]) (hr:∀x∈xs,∀M,M≤N→Rd M read x (g x) Kr):Rd N (listed read) xs (cmK (xs.map g)++[(5,[41])]) K:=
 Rd.bind (V2 h5 hne hr) (Rd.CM (Rd.exp 5) (Rd.pure xs) (fun _ h=>h)) (fun k _=>⟨h6 k,by simp [hdT]⟩)
theorem rP {read:PM α} {g:α→List KT} {Kr:List KT→Prop} (h5:∀k,Kr ((5,[44])::k)) (h6:∀k,Kr ((5,[41])::k)) {xs:List α} (hne:xs≠[]) (hr:∀x∈xs,∀M,M+1≤N→Rd M read x (g x) Kr) (n:PM (List α)) (ht:[40]≠[]):Rd N (.acc [40] ht (listed read) n) xs (HN (cmK (xs.map g))) K:=by
 by_cases hN:N=0
 · subst hN
   intro r p k h1 _ hs _
   have:=congrArg Ps hs
   rw [Ny] at this
   simp [HN] at this
   omega
 · exact Rd.Bz 5 (NM h5 h6 hne (fun x hx M hM=>hr x hx M (by omega)))
theorem V3 {read:PM α} {g:α→List KT} {Kr:List KT→Prop} (h5:∀k,Kr ((5,[44])::k)) (h6:∀k,Kr ((5,[41])::k)) (xs:List α) (hr:∀x∈xs,∀M,M+1≤N→Rd M read x (g x) Kr):Rd N (H9 read) xs (T0 (xs.map g)) (fun k=>xs=[]→hdT k≠[40]):=by
 cases xs with
 |nil=>exact Rd.BR (fun k hk=>hk rfl) (Rd.pure _)
 |cons x xs=>exact rP h5 h6 (by simp) hr _ _
theorem YJ {read:PM α} {g:α→List KT} {Kr:List KT→Prop} (h5:∀k,Kr ((5,[44])::k)) (h6:∀k,Kr ((5,[41])::k)) (xs:List α) (hr:∀x∈xs,∀M,M≤N→Rd M read x (g x) Kr) (hh:∀x∈xs,∀k,hdT (g x++k)≠[41]):Rd N (closed read) xs (cmK (xs.map g)++[(5,[41])]) K:=by
 cases xs with
 |nil=>exact Rd.Bz 5 (Rd.pure _)
 |cons x xs=>
  refine Rd.BR (fun k _=>?_) (NM h5 h6 (by simp) hr)
  rw [cmK,Vu,AS,AS]
  exact hh x (A9 ..) _
theorem fI {s:Str} {k:Int} (hk:k=1∨k=2) (h:Ou k s=true):Mh s=false:=by
 have:∀t,Ee s= .ok (k,t)→t=s→Mh s=false:=fun t ht e=>by
  subst e
  obtain ⟨h1,_,_⟩:=W5 0 ht
  rcases h1 with ⟨_,h⟩|h|h|h
  · exact h
  · simp only at h;omega
  · simp only at h;omega
  · have:=h.1;simp only at this;omega
 rcases hk with rfl|rfl
 · obtain ⟨b,r,rfl,h1,h2,h3,h4⟩:=WD h
   refine this (b::r) ?_ rfl
   have ht:=Yt (p:=Ej M6) (s:=b::r) (rest:=[]) h2 (fun _ _ e=>by cases e)
   rw [A1] at ht
   rw [Ee,ht,h1,(UD h1).2.2,h4,decide_eq_false (by omega)];rfl
 · obtain ⟨b,r,rfl,h1,h2,h3⟩:=U0 h
   refine this (b::r) ?_ rfl
   have ht:=Yt (p:=Ej M6) (s:=b::r) (rest:=[]) h2 (fun _ _ e=>by cases e)
   rw [A1] at ht
   rw [Ee,ht,h1,decide_eq_false (by omega),NH];rfl
theorem Mi {s t:Str} (h:Mh s=false) (ht:Mh t=true):s≠t:=fun e=>by rw [e,ht] at h;cases h
theorem UE {s:Str} (h:Gr s=true):Mh s=false:=fI (.inl rfl) h
theorem fG {s:Str} (h:upperB s=true):Mh s=false:=fI (.inr rfl) h
theorem Pt {s:Str} (h:Gi s=true):Rd N Fj s (shK s) K:=by
 unfold shK
 split
 · rename_i e;subst e;exact Rd.Bz 5 (Rd.pure _)
 · rename_i e
   simp only [Gi,BJ,beq_iff_eq] at h
   have hn:Gr s=true:=h.resolve_left e
   exact Rd.BR (fun k _=>Mi (UE hn) (by decide)) (Rd.take s)
end Go.Ab
namespace Go.Ab
variable {N:Nat} {K:List KT→Prop}
def noP (k:List KT):Prop:=hdT k≠[40]
theorem Zz:∀ {d:Nat} {t:TE},D3 d t=true→∃q x l,HR t=(q,x)::l∧x≠[41]
 |0,.mk ..,h=>by cases h
 |d+1,.mk k n l,h=>by
  rw [D3,AK] at h
  have h1:=h.1
  rw [HR,RP]
  rcases Yn h1 with rfl|rfl|rfl|rfl|rfl|rfl|rfl|rfl|rfl
  · exact ⟨_,_,_,rfl,by decide⟩
  · exact ⟨_,_,_,rfl,by decide⟩
  · exact ⟨_,_,_,rfl,by decide⟩
  · simp [Cp] at h1;exact ⟨_,_,_,rfl,Mi (UE h1.1) (by decide)⟩
  · simp [Cp] at h1;exact ⟨_,_,_,rfl,Mi (fG h1.1) (by decide)⟩
  · simp [Cp] at h1
    cases l with
    |nil=>simp at h1
    |cons a l=>exact ⟨_,_,_,rfl,by decide⟩
  · exact ⟨_,_,_,rfl,by decide⟩
  · exact ⟨_,_,_,rfl,by decide⟩
  · exact ⟨_,_,_,rfl,by decide⟩
theorem bL {q:Int} {x:Str} {l:List KT} {ks:List KT} (h:ks=(q,x)::l) (k:List KT):hdT (ks++k)=x∧hdK (ks++k)=q:=by
 subst h;exact ⟨rfl,rfl⟩
theorem Sr {α:Type} {m:PM α} {a:α} {q:Int} {x:Str} {l ks:List KT} (h:ks=(q,x)::l):Rd 0 m a ks K:=fun r p k h1 _ hs _=>by
 have:=congrArg Ps hs
 rw [Ny,h] at this
 simp at this;omega
theorem IC {α:Type} {m:PM α} {a:α} {ks:List KT} (h:ks≠[]):Rd 0 m a ks K:=by
 cases ks with
 |nil=>exact absurd rfl h
 |cons x l=>exact Sr (q:=x.1) (x:=x.2) (l:=l) rfl
theorem RB (x y:List KT) (l:List (List KT)):cmK (x::y::l)=x++((5,[44])::cmK (y::l)):=by
 unfold cmK;rw [YZ];rfl
theorem TD (x:List KT):cmK [x]=x:=eB _ x
theorem jO:∀(d:Nat) (t:TE),D3 d t=true→∀n N,N≤n→Rd N (FT n) t (HR t) noP
 |0,.mk ..,h,_,_,_=>by cases h
 |d+1,.mk k nm l,h,0,N,hN=>by
  obtain ⟨q,x,r,e,_⟩:=Zz h
  have:N=0:=by omega
  subst this
  exact Sr e
 |d+1,.mk k nm l,h,n+1,N,hN=>by
  rw [D3,AK,A4] at h
  obtain ⟨h1,h2⟩:=h
  have ih:=fun x (hx:x∈l) M (hM:M+1≤N)=>jO d x (h2 x hx) n M (by omega)
  have h5:∀k:List KT,noP ((5,[44])::k):=fun k=>by simp [noP,hdT]
  have h6:∀k:List KT,noP ((5,[41])::k):=fun k=>by simp [noP,hdT]
  rw [FT,HR,RP]
  rcases Yn h1 with rfl|rfl|rfl|rfl|rfl|rfl|rfl|rfl|rfl
  · simp [Cp] at h1
    obtain ⟨rfl,rfl⟩:=h1
    exact Rd.CN (fun k _=>by simp [MP,hdK]) (Rd.CN (fun k _=>by simp [MP,hdK]) (Rd.Bz 4 (Rd.pure _)))
  · simp [Cp] at h1
    obtain ⟨rfl,rfl⟩:=h1
    exact Rd.CN (fun k _=>by simp [MP,hdK]) (Rd.CN (fun k _=>by simp [MP,hdK]) (Rd.BR (fun k _=>by simp [MP,hdT]) (Rd.Bz 4 (Rd.pure _))))
  · simp [Cp] at h1
    obtain ⟨rfl,rfl⟩:=h1
    exact Rd.CN (fun k _=>by simp [MP,hdK]) (Rd.CN (fun k _=>by simp [MP,hdK]) (Rd.BR (fun k _=>by simp [MP,hdT]) (Rd.BR (fun k _=>by simp [MP,hdT]) (Rd.Bz 4 (Rd.pure _)))))
  · simp [Cp] at h1
    obtain ⟨h1,rfl⟩:=h1
    exact Rd.Vx (Rd.map (fun x=>TE.mk 4 x []) (Rd.take nm))
  · exact Rd.CN (fun k _=>by simp [MP,hdK]) (Rd.Vx (Rd.CM (K1:=fun _=>True) (Rd.take nm) (Rd.map (fun l=>TE.mk 5 nm l) ((V3 (N:=N - 1) h5 h6 l (fun x hx M hM=>ih x hx M (by omega))).imp (fun k hk _=>hk))) (fun _ _=>trivial)))
  · simp [Cp] at h1
    match l,h1,h2,ih with
    |a::b::l,h1,h2,ih=>
     have hs:MP 6 nm ((a::b::l).map HR)=(5,[40])::(HR a++((5,[44])::(cmK ((b::l).map HR)++[(5,[41])]))):=by
      show HN (cmK (HR a::HR b::l.map HR))=_
      rw [RB,HN,AS];rfl
     rw [hs,h1.1.1]
     refine Rd.CN (fun k _=>by simp [hdK]) (Rd.CN (fun k _=>by simp [hdK]) (Rd.BR (fun k _=>by simp [hdT]) (Rd.BR (fun k _=>by simp [hdT]) (Rd.BR (fun k _=>by simp [hdT]) (Rd.BR (fun k _=>by simp [hdT]) (Rd.BR (fun k _=>by simp [hdT]) (Rd.Bz 5 ?_)))))))
     by_cases hN0:N=0
     · subst hN0
       obtain ⟨q,x,r,e,_⟩:=Zz (h2 a (by simp))
       refine Sr (q:=q) (x:=x) (l:=r++((5,[44])::(cmK ((b::l).map HR)++[(5,[41])]))) ?_
       rw [e];rfl
     · exact Rd.bind (ih a (by simp) (N - 1) (by omega)) (Rd.CM (K1:=fun _=>True) (Rd.exp 5) (Rd.map (fun l=>TE.mk 6 [] (a::l)) (NM h5 h6 (by simp) (fun x hx M hM=>ih x (Ae _ hx) M (by omega)))) (fun _ _=>trivial)) (fun k _=>h5 _)
  · simp [Cp] at h1
    obtain ⟨rfl,hl⟩:=h1
    obtain ⟨a,rfl⟩:=Uw hl
    have hs:MP 7 [] ([a].map HR)=(4,[97,114,114,97,121])::(5,[40])::(HR a++[(5,[41])]):=by
     show (4,[97,114,114,97,121])::HN (cmK [HR a])=_
     rw [TD];rfl
    rw [hs]
    refine Rd.CN (fun k _=>by simp [hdK]) (Rd.CN (fun k _=>by simp [hdK]) (Rd.BR (fun k _=>by simp [hdT]) (Rd.BR (fun k _=>by simp [hdT]) (Rd.BR (fun k _=>by simp [hdT]) (Rd.Bz 4 (Rd.CM (K1:=fun _=>True) (Rd.exp 5) ?_ (fun _ _=>trivial)))))))
    by_cases hN0:N=0
    · subst hN0
      obtain ⟨q,x,r,e,_⟩:=Zz (h2 a (by simp))
      exact Sr (by rw [e];rfl)
    · exact Rd.bind (ih a (by simp) (N - 1 - 1) (by omega)) (Rd.CM (K1:=fun _=>True) (Rd.exp 5) (Rd.pure _) (fun _ _=>trivial)) (fun k _=>h6 _)
  · simp [Cp] at h1
    obtain ⟨rfl,hl⟩:=h1
    obtain ⟨a,rfl⟩:=Uw hl
    have hs:MP 8 [] ([a].map HR)=(4,[114,101,102])::(5,[40])::(HR a++[(5,[41])]):=by
     show (4,[114,101,102])::HN (cmK [HR a])=_
     rw [TD];rfl
    rw [hs]
    refine Rd.CN (fun k _=>by simp [hdK]) (Rd.CN (fun k _=>by simp [hdK]) (Rd.BR (fun k _=>by simp [hdT]) (Rd.BR (fun k _=>by simp [hdT]) (Rd.BR (fun k _=>by simp [hdT]) (Rd.BR (fun k _=>by simp [hdT]) (Rd.Bz 4 (Rd.CM (K1:=fun _=>True) (Rd.exp 5) ?_ (fun _ _=>trivial))))))))
    by_cases hN0:N=0
    · subst hN0
      obtain ⟨q,x,r,e,_⟩:=Zz (h2 a (by simp))
      exact Sr (by rw [e];rfl)
    · exact Rd.bind (ih a (by simp) (N - 1 - 1) (by omega)) (Rd.CM (K1:=fun _=>True) (Rd.exp 5) (Rd.pure _) (fun _ _=>trivial)) (fun k _=>h6 _)
  · simp [Cp] at h1
    obtain ⟨⟨rfl,hl⟩,_⟩:=h1
    obtain ⟨m,x,rfl⟩:=S9 hl
    have hs:MP 9 [] ((m++[x]).map HR)=(4,[102,110])::(5,[40])::((cmK (m.map HR)++[(5,[41])])++((5,[45,62])::HR x)):=by
     show (4,[102,110])::(Kg ((m++[x]).map HR).dropLast++((5,[45,62])::((m++[x]).map HR).getLastD []))=_
     simp only [Bc,AE,AH,List.dropLast_concat,List.getLastD_concat]
     rfl
    rw [hs]
    refine Rd.CN (fun k _=>by simp [hdK]) (Rd.CN (fun k _=>by simp [hdK]) (Rd.BR (fun k _=>by simp [hdT]) (Rd.BR (fun k _=>by simp [hdT]) (Rd.BR (fun k _=>by simp [hdT]) (Rd.BR (fun k _=>by simp [hdT]) (Rd.BR (fun k _=>by simp [hdT]) (Rd.BR (fun k _=>by simp [hdT]) (Rd.Bz 4 (Rd.CM (K1:=fun _=>True) (Rd.exp 5) ?_ (fun _ _=>trivial))))))))))
    by_cases hN0:N=0
    · subst hN0
      exact IC (by simp)
    · refine Rd.bind (K1:=fun _=>True) (YJ h5 h6 m (fun y hy M hM=>ih y (List.mem_append_left _ hy) M (by omega)) (fun y hy k=>?_)) (Rd.CM (K1:=fun _=>True) (Rd.exp 5) (Rd.map (fun t=>TE.mk 9 [] (m++[t])) (ih x (by simp) _ (by omega))) (fun _ _=>trivial)) (fun _ _=>trivial)
      obtain ⟨q,z,r,e,hz⟩:=Zz (h2 y (List.mem_append_left _ hy))
      rw [(bL e k).1];exact hz
theorem rN {c:CE} (h:To c=true) (hN:N≤BB):Rd N Zg c (tkC c) noP:=by
 simp only [To,AK,A4] at h
 refine Rd.CM (K1:=fun _=>True) (Rd.take c.name) (Rd.map (fun l=>CE.mk c.name l) ((V3 (Kr:=noP) (fun k=>by simp [noP,hdT]) (fun k=>by simp [noP,hdT]) c.args (fun x hx M hM=>jO 40 x (h.2 x hx) BB M (by omega))).imp (fun k hk _=>hk))) (fun _ _=>trivial)
theorem nR {d:DE} (h:IT d=true) (hN:N≤BB):Rd N SG d ((2,d.name)::(T0 (d.vars.map fun s=>[(1,s)])++((5,[61])::([((5:Int),[124])].intercalate (d.cons.map tkC)++[(5,[59])])))) K:=by
 simp only [IT,AK,A4,decide_eq_true_eq] at h
 obtain ⟨⟨⟨⟨⟨h1,h2⟩,h3⟩,h4⟩,h5⟩,h6⟩:=h
 have hne:d.cons≠[]:=by intro e;rw [e] at h4;simp at h4
 refine Rd.CM (K1:=fun _=>True) (Rd.take d.name) (Rd.bind (V3 (Kr:=fun _=>True) (g:=fun s=>[(1,s)]) (fun _=>trivial) (fun _=>trivial) d.vars (fun s hs M _=>Rd.take s)) (Rd.CM (K1:=fun _=>True) (Rd.exp 5) (Rd.bind (V2 (g:=tkC) (Kr:=noP) (fun k=>by simp [noP,hdT]) hne (fun c hc M hM=>rN (h6 c hc) (by omega))) (Rd.CM (K1:=fun _=>True) (Rd.exp 5) (Rd.pure _) (fun _ _=>trivial)) (fun k _=>⟨by simp [noP,hdT],by simp [hdT]⟩)) (fun _ _=>trivial)) (fun k _ _=>by simp [hdT])) (fun _ _=>trivial)
end Go.Ab
namespace Go.Ab
variable {N:Nat} {K:List KT→Prop}
def opens:List Str:=[[108,101,116],[105,102],[109,97,116,99,104],[102,110],[116,114,121]]
def FH (ks:List KT) (b:Prop):Prop:=∃q x l,ks=(q,x)::l∧x≠[41]∧(b→opens.contains x=false)
theorem wO {x:Str} {l:List Str} (h:Mh x=false) (hl:l.all Mh=true):l.contains x=false:=by
 rw [GJ]
 intro hc
 have hm:x∈l:=by simpa [D4] using hc
 have:=A4.1 hl x hm
 rw [h] at this;cases this
theorem rI (n:Nat):Mh (Lib.decDigits n)=false:=by
 rw [GJ]
 intro hw
 obtain ⟨b,l,e,_,h,_⟩:=RQ hw
 have:=bG n b (by rw [e];exact A9 ..)
 simp only [Ej] at this
 rw [h] at this;cases this
theorem FH.par {t:List KT} {b:Prop}:FH (HN t) b:=⟨_,_,_,rfl,by decide,fun _=>by decide⟩
theorem FH.app {t k:List KT} {b:Prop} (h:FH t b):FH (t++k) b:=by
 obtain ⟨q,x,l,rfl,h1,h2⟩:=h
 exact ⟨q,x,l++k,rfl,h1,h2⟩
theorem FH.c {q:Int} {x:Str} {l:List KT} {b:Prop} (h1:x≠[41]) (h2:b→opens.contains x=false):FH ((q,x)::l) b:=⟨q,x,l,rfl,h1,h2⟩
theorem FH.w {q:Int} {x:Str} {l:List KT} {b:Prop} (h:Mh x=false):FH ((q,x)::l) b:=⟨q,x,l,rfl,Mi h (by decide),fun _=>wO h (by decide)⟩
theorem FH.plK {d:Nat} {e:Ex} {t:List KT} (hd:1≤d) (h:FH t (1≤lvl e)) {b:Prop}:FH (plK d e t) b:=by
 unfold Ab.plK
 split
 · exact FH.par
 · rename_i hl
   obtain ⟨q,x,l,e1,h1,h2⟩:=h
   exact ⟨q,x,l,e1,h1,fun _=>h2 (by omega)⟩
theorem Zf (u:Int):1≤EN u:=by
 unfold EN;split
 · omega
 · split<;>omega
theorem rF:∀(s:Nat) (e:Ex),e.size≤s→e.nb→FH (tkE e) (1≤lvl e)
 |0,e,hs,_=>by have:=e.size_pos;omega
 |s+1,.mk o n u ns ks al,hs,h=>by
  rw [Ex.nb,Ex.Md] at h
  obtain ⟨hn,hk,_⟩:=h
  have ih:∀x∈ks,FH (tkE x) (1≤lvl x):=fun x hx=>rF s x (by have:=Ex.Sa hx;simp only [Ex.size] at hs;omega) (hk x hx)
  simp only [G5,AK] at hn
  obtain ⟨⟨⟨⟨hnm,hnu⟩,hns⟩,has⟩,hnk⟩:=hn
  rw [tkE,MO,MN]
  rcases eO hnk with rfl|rfl|rfl|rfl|rfl|rfl|rfl|rfl|rfl|rfl|rfl|rfl|rfl|rfl|rfl|rfl|rfl
  · exact FH.c (by decide) (fun _=>by decide)
  · show FH (if u=1 then [(4,[116,114,117,101])] else [(4,[102,97,108,115,101])]) _
    split
    · exact FH.c (by decide) (fun _=>by decide)
    · exact FH.c (by decide) (fun _=>by decide)
  · show FH (SK u) _
    unfold SK
    split
    · exact FH.c (by decide) (fun _=>by decide)
    · exact FH.w (rI _)
  · exact FH.w (UE (by simpa [nmB] using hnm))
  · exact FH.par
  · exact FH.w (fG (by simpa [nmB] using hnm))
  · exact FH.c (by decide) (fun hl=>by simp [lvl] at hl)
  · exact FH.c (by decide) (fun hl=>by simp [lvl] at hl)
  · exact FH.c (by decide) (fun hl=>by simp [lvl] at hl)
  · exact FH.c (by decide) (fun hl=>by simp [lvl] at hl)
  · exact FH.c (by decide) (fun hl=>by simp [lvl] at hl)
  · cases ks with
    |nil=>simp [nkB] at hnk
    |cons f l=>
     show FH ((if Ld f then HN (tkE f) else plK 4 f (tkE f))++Kg (l.map tkE)) _
     refine FH.app ?_
     split
     · exact FH.par
     · exact FH.plK (by omega) (ih f (by simp))
  · obtain ⟨a,b,rfl⟩:=R7 (by simpa [nkB] using hnk)
    exact (FH.plK (by have:=Zf u;split<;>omega) (ih a (by simp))).app
  · show FH ((4,prT u)::Kg (ks.map tkE)) _
    unfold prT
    repeat' split
    all_goals exact FH.c (by decide) (fun _=>by decide)
  · exact FH.c (by decide) (fun _=>by decide)
  · exact FH.c (by decide) (fun _=>by decide)
  · exact FH.c (by decide) (fun hl=>by simp [lvl] at hl)
theorem sJ {e:Ex} (h:e.nb):FH (tkE e) (1≤lvl e):=rF e.size e (A7 _) h
theorem kO {e:Ex} (h:e.nb) (k:List KT):hdT (tkE e++k)≠[41]:=by
 obtain ⟨q,x,l,e1,h1,_⟩:=sJ h
 rw [(bL e1 k).1];exact h1
theorem dY {e:Ex} (h:e.nb):tkE e≠[]:=by
 obtain ⟨q,x,l,e1,_⟩:=sJ h
 rw [e1];simp
def Gs (N:Nat) (m m':PM Ex) (ks:List KT) (K:List KT→Prop):Prop:=
 ∀r p k,r.length≤N→r.length≤17000→strip r=ks++k→K k→m.run ⟨r,false,p⟩=m'.run ⟨r.drop ks.length,false,p⟩
theorem Gs.refl (m:PM Ex):Gs N m m [] K:=fun _ _ _ _ _ _ _=>rfl
theorem Gs.bind {α:Type} {m:PM α} {f:α→PM Ex} {m':PM Ex} {a:α} {k1 k2:List KT} {K1:List KT→Prop} (h1:Rd N m a k1 K1) (h2:Gs (N - k1.length) (f a) m' k2 K) (hK:∀k,K k→K1 (k2++k)):Gs N (m.bind f) m' (k1++k2) K:=fun r p k hN hL hs hk=>by
 rw [AS] at hs
 have e1:=h1 r p (k2++k) hN hL hs (hK k hk)
 have e2:=h2 (r.drop k1.length) p k (by rw [Ah];omega) (by rw [Ah];omega) (J8 hs) hk
 show (f (m.run ⟨r,false,p⟩).1).run (m.run ⟨r,false,p⟩).2=_
 rw [e1]
 show (f a).run ⟨r.drop k1.length,false,p⟩=_
 rw [e2,Cb,AA]
theorem Gs.last {α:Type} {m:PM α} {f:α→PM Ex} {a:α} {k1:List KT} (h1:Rd N m a k1 K):Gs N (m.bind f) (f a) k1 K:=by
 have:=Gs.bind (m':=f a) (K:=K) h1 (Gs.refl (f a)) (fun k h=>h)
 rwa [A1] at this
theorem Gs.Bz {t:Str} {ht:t≠[]} {y n m':PM Ex} {ks:List KT} (q:Int) (h:Gs (N - 1) y m' ks K):Gs N (.acc t ht y n) m' ((q,t)::ks) K:=fun r p k hN hL hs hk=>by
 have hh:=(Fu hs).1
 rw [lZ (by rw [hh];simp [hdT])]
 have e:=h r.tail p k (by rw [List.length_tail];omega) (by rw [List.length_tail];omega) (by have:=J8 (ks:=[(q,t)]) hs;simpa using this) hk
 rw [e,AD,← List.drop_one,Cb,Nat.add_comm]
theorem Gs.BR {t:Str} {ht:t≠[]} {y n m':PM Ex} {ks:List KT} (hn:∀k,K k→hdT (ks++k)≠t) (h:Gs N n m' ks K):Gs N (.acc t ht y n) m' ks K:=fun r p k hN hL hs hk=>by
 have hh:=(Fu hs).1
 rw [Q6 (by rw [hh];simpa using hn k hk)]
 exact h r p k hN hL hs hk
theorem Ac.of {m:PM Ex} {c:Nat→Ex→PM Ex} {e:Ex} {ks:List KT} (h:Rd N m e ks K):Ac N (m.bind fun a=>c BB a) c e ks K:=⟨0,CB _,Gs.last (f:=fun a=>c BB a) h⟩
theorem Ac.step {m:PM Ex} {c:Nat→Ex→PM Ex} {a e:Ex} {k1 k2:List KT} {K1:List KT→Prop} (h1:Ac N m c a k1 K1) (h2:∀n,Gs (N - k1.length) (c (n+1) a) (c n e) k2 K) (hk2:k2≠[]) (hK:∀k,K k→K1 (k2++k)):Ac N m c e (k1++k2) K:=by
 obtain ⟨j,hj,h1⟩:=h1
 have hl2:1≤k2.length:=Ap.2 hk2
 refine ⟨j+1,by rw [AA];omega,fun r p k hN hL hs hk=>?_⟩
 have hsl:=congrArg Ps hs
 rw [Ny,AA,AA] at hsl
 rw [AS] at hs
 have e1:=h1 r p (k2++k) hN hL hs (hK k hk)
 have hf:=FC
 have e2:=h2 (BB - (j+1)) (r.drop k1.length) p k (by rw [Ah];omega) (by rw [Ah];omega) (J8 hs) hk
 rw [e1,show BB - j=BB - (j+1)+1 by omega,e2,Cb,AA]
theorem Ac.fin {m:PM Ex} {c:Nat→Ex→PM Ex} {e:Ex} {ks:List KT} {K':List KT→Prop} (h:Ac N m c e ks K) (hK:∀k,K' k→K k) (hc:∀n r p,K' (strip r)→(c n e).run ⟨r,false,p⟩=(e,⟨r,false,p⟩)):Rd N m e ks K':=by
 obtain ⟨j,_,h⟩:=h
 intro r p k hN hL hs hk
 rw [h r p k hN hL hs (hK k hk)]
 exact hc _ _ _ (by rw [J8 hs];exact hk)
theorem Ac.imp {m:PM Ex} {c:Nat→Ex→PM Ex} {e:Ex} {ks:List KT} {K':List KT→Prop} (h:Ac N m c e ks K) (hK:∀k,K' k→K k):Ac N m c e ks K':=by
 obtain ⟨j,hj,h⟩:=h
 exact ⟨j,hj,fun r p k hN hL hs hk=>h r p k hN hL hs (hK k hk)⟩
theorem Mv {l:List Str} {k:List KT} (h:noT l k) {t:Str} (ht:l.contains t=true):hdT k≠t:=fun e=>by
 unfold noT at h;rw [e,ht] at h;cases h
theorem NY (r:List Tok):(r.headD Sk).text=hdT (strip r):=(Fu rfl).1
theorem X5 {E:PM Ex}:∀n e r p,hdT (strip r)≠[40]→(SQ E n e).run ⟨r,false,p⟩=(e,⟨r,false,p⟩)
 |0,e,r,p,_=>rfl
 |n+1,e,r,p,h=>by
  rw [SQ,Q6 (by rw [NY];simpa using h)];rfl
def sPr:List Str:=[[40],[42],[47],[37]]
def sSu:List Str:=[[40],[42],[47],[37],[43],[45]]
def sEx:List Str:=[[40],[42],[47],[37],[43],[45],[60],[60,61],[61,61]]
theorem TY {l m:List Str} (hs:m.all (fun t=>l.contains t)=true) {k:List KT} (h:noT l k):noT m k:=by
 unfold noT at h ⊢
 rw [GJ] at h ⊢
 intro hc
 have hm:hdT k∈m:=by simpa [D4] using hc
 exact h (A4.1 hs _ hm)
theorem WN {E:PM Ex}:∀n e r p,noT sPr (strip r)→(JO E n e).run ⟨r,false,p⟩=(e,⟨r,false,p⟩)
 |0,e,r,p,_=>rfl
 |n+1,e,r,p,h=>by
  rw [JO,Q6 (by rw [NY];simpa using Mv h (t:=[42]) (by decide)),Q6 (by rw [NY];simpa using Mv h (t:=[47]) (by decide)),Q6 (by rw [NY];simpa using Mv h (t:=[37]) (by decide))];rfl
theorem jC {E:PM Ex}:∀n e r p,noT sSu (strip r)→(Rf E n e).run ⟨r,false,p⟩=(e,⟨r,false,p⟩)
 |0,e,r,p,_=>rfl
 |n+1,e,r,p,h=>by
  rw [Rf,Q6 (by rw [NY];simpa using Mv h (t:=[43]) (by decide)),Q6 (by rw [NY];simpa using Mv h (t:=[45]) (by decide))];rfl
def HE (E:PM Ex) (N:Nat):Prop:=∀x:Ex,x.nb→∀M,M+1≤N→Rd M E x (tkE x) (noT sEx)
theorem HE.mono {E:PM Ex} {M:Nat} (h:HE E N) (hM:M≤N):HE E M:=fun x hx M' h'=>h x hx M' (by omega)
theorem WR (k:List KT):noT sEx ((5,[41])::k):=by show sEx.contains [41]=false;decide
theorem Vf (k:List KT):noT sEx ((5,[44])::k):=by show sEx.contains [44]=false;decide
theorem V4 {E:PM Ex} (hE:HE E N) {e:Ex} (h:e.nb):Rd N (Hp E) e (HN (tkE e)) K:=by
 by_cases hN:N=0
 · subst hN;exact IC (by simp [HN])
 unfold HN Hp
 iterate 3 refine Rd.CN (fun k _=>by simp [hdK]) ?_
 iterate 3 refine Rd.BR (fun k _=>by simp [hdT]) ?_
 refine Rd.Bz 5 ?_
 unfold Ye
 refine Rd.BR (fun k _=>by rw [AS];exact kO h _) ?_
 exact Rd.bind (hE e h (N - 1) (by omega)) (Rd.Bz 5 (Rd.pure e)) (fun k _=>WR k)
theorem Ya {o u:Int} {n:Str} {ns:List Str} {ks:List Ex} {al:List Al} (h:(Ex.mk o n u ns ks al).nb):nmB o n=true∧nuB o u=true∧nsB o ns=true∧asB o al=true∧nkB o u ks.length=true∧(∀x∈ks,x.nb)∧∀a∈al,a.nb:=by
 rw [Ex.nb,Ex.Md,Al.Md] at h
 obtain ⟨hn,hk,ha⟩:=h
 simp only [G5,AK] at hn
 obtain ⟨⟨⟨⟨hnm,hnu⟩,hns⟩,has⟩,hnk⟩:=hn
 exact ⟨hnm,hnu,hns,has,hnk,hk,ha⟩
theorem Sq {E:PM Ex} (hE:HE E N) {a:Ex} (h:a.nb):Rd N (Mx E) [a] (Kg [tkE a]) K:=by
 unfold Kg;rw [TD];unfold HN Mx
 by_cases hN:N=0
 · subst hN;exact IC (by simp)
 exact Rd.CM (K1:=fun _=>True) (Rd.exp 5) (Rd.bind (hE a h _ (by omega)) (Rd.CM (K1:=fun _=>True) (Rd.exp 5) (Rd.pure _) (fun _ _=>trivial)) (fun k _=>WR k)) (fun _ _=>trivial)
theorem V1 {E:PM Ex} (hE:HE E N) {a b:Ex} (h:a.nb) (h2:b.nb):Rd N (Q4 E) [a,b] (Kg [tkE a,tkE b]) K:=by
 unfold Kg;rw [RB,TD];unfold HN Q4
 by_cases hN:N=0
 · subst hN;exact IC (by simp)
 rw [AS,AX]
 exact Rd.CM (K1:=fun _=>True) (Rd.exp 5) (Rd.bind (hE a h _ (by omega)) (Rd.CM (K1:=fun _=>True) (Rd.exp 5) (Rd.bind (hE b h2 _ (by omega)) (Rd.CM (K1:=fun _=>True) (Rd.exp 5) (Rd.pure _) (fun _ _=>trivial)) (fun k _=>WR k)) (fun _ _=>trivial)) (fun k _=>Vf _)) (fun _ _=>trivial)
theorem jN {E:PM Ex} (hE:HE E N) {a b c:Ex} (h:a.nb) (h2:b.nb) (h3:c.nb):Rd N (Yd E) [a,b,c] (Kg [tkE a,tkE b,tkE c]) K:=by
 unfold Kg;rw [RB,RB,TD];unfold HN Yd
 by_cases hN:N=0
 · subst hN;exact IC (by simp)
 rw [AS,AX,AS,AX]
 exact Rd.CM (K1:=fun _=>True) (Rd.exp 5) (Rd.bind (hE a h _ (by omega)) (Rd.CM (K1:=fun _=>True) (Rd.exp 5) (Rd.bind (hE b h2 _ (by omega)) (Rd.CM (K1:=fun _=>True) (Rd.exp 5) (Rd.bind (hE c h3 _ (by omega)) (Rd.CM (K1:=fun _=>True) (Rd.exp 5) (Rd.pure _) (fun _ _=>trivial)) (fun k _=>WR k)) (fun _ _=>trivial)) (fun k _=>Vf _)) (fun _ _=>trivial)) (fun k _=>Vf _)) (fun _ _=>trivial)
theorem YK {n:Nat} (h:n≤1000000):Rd N Il (n:Int) [(3,Lib.decDigits n)] K:=by
 have:=Rd.map (N:=N) (K:=K) P2 (Rd.take (hq:=by decide) (q:=3) (Lib.decDigits n))
 rw [pS h] at this
 exact this
theorem nS {E:PM Ex} (hE:HE E N) {e:Ex} (h:e.nb) (hl:lvl e=5):Rd N (Hp E) e (tkE e) (fun k=>Ld e=true→hdT k≠[40]):=by
 by_cases hN:N=0
 · subst hN;exact IC (dY h)
 obtain ⟨o,n,u,ns,ks,al⟩:=e
 obtain ⟨hnm,hnu,hns,has,hnk,hk,-⟩:=Ya h
 rw [tkE,MO,MN]
 rcases eO hnk with rfl|rfl|rfl|rfl|rfl|rfl|rfl|rfl|rfl|rfl|rfl|rfl|rfl|rfl|rfl|rfl|rfl
 · simp [nmB,nuB,nsB,asB,nkB] at hnm hnu hns has hnk
   subst hnm hnu hns has hnk
   unfold Hp
   iterate 3 refine Rd.CN (fun k _=>by simp [tkN,hdK]) ?_
   iterate 3 refine Rd.BR (fun k _=>by simp [tkN,hdT]) ?_
   refine Rd.Bz 5 ?_
   unfold Ye
   exact Rd.Bz 5 (Rd.pure _)
 · simp [nmB,nuB,nsB,asB,nkB] at hnm hnu hns has hnk
   subst hnm hns has hnk
   have hu:u=1∨u=0:=by omega
   unfold Hp
   rcases hu with rfl|rfl
   · iterate 3 refine Rd.CN (fun k _=>by simp [tkN,hdK]) ?_
     iterate 1 refine Rd.BR (fun k _=>by simp [tkN,hdT]) ?_
     exact Rd.Bz 4 (Rd.pure _)
   · iterate 3 refine Rd.CN (fun k _=>by simp [tkN,hdK]) ?_
     iterate 2 refine Rd.BR (fun k _=>by simp [tkN,hdT]) ?_
     exact Rd.Bz 4 (Rd.pure _)
 · simp [nmB,nuB,nsB,asB,nkB] at hnm hnu hns has hnk
   subst hnm hns has hnk
   show Rd N (Hp E) _ (SK u) _
   unfold SK Hp
   split
   · rename_i hu
     iterate 3 refine Rd.CN (fun k _=>by simp [hdK]) ?_
     have e1:u=-((u.natAbs:Nat):Int):=by omega
     refine Rd.Bz 5 ?_
     have:=Rd.map (K:=fun k=>Ld (.mk 3 [] u [] [] [])=true→hdT k≠[40]) (fun n=>exN 3 (-n) []) (YK (N:=N - 1) (n:=u.natAbs) (by omega))
     rw [← e1] at this
     exact this
   · rename_i hu
     have e1:u=((u.toNat:Nat):Int):=by omega
     refine Rd.Vx ?_
     have:=Rd.map (K:=fun k=>Ld (.mk 3 [] u [] [] [])=true→hdT k≠[40]) (fun n=>exN 3 n []) (YK (N:=N) (n:=u.toNat) (by omega))
     rw [← e1] at this
     exact this
 · simp [nmB,nuB,nsB,asB,nkB] at hnm hnu hns has hnk
   subst hnu hns has hnk
   unfold Hp
   refine Rd.CN (fun k _=>by simp [tkN,hdK]) ?_
   exact Rd.Vx (Rd.map (fun x=>Ex.mk 4 x 0 [] [] []) (Rd.take n))
 · simp [nmB,nuB,nsB,asB,nkB] at hnm hnu hns has hnk
   subst hnm hnu hns has
   match ks,hnk,hk with
   |a::b::l,_,hk=>
    have hs:tkN 5 [] 0 [] (a::b::l) ((a::b::l).map tkE) ([].map tkA)=(5,[40])::(tkE a++((5,[44])::(cmK ((b::l).map tkE)++[(5,[41])]))):=by
     show HN (cmK (tkE a::tkE b::l.map tkE))=_
     rw [RB,HN,AS];rfl
    rw [hs]
    unfold Hp
    iterate 3 refine Rd.CN (fun k _=>by simp [hdK]) ?_
    iterate 3 refine Rd.BR (fun k _=>by simp [hdT]) ?_
    refine Rd.Bz 5 ?_
    unfold Ye
    refine Rd.BR (fun k _=>by rw [AS];exact kO (hk a (by simp)) _) ?_
    refine Rd.bind (hE a (hk a (by simp)) _ (by omega)) (Rd.BR (fun k _=>by simp [hdT]) (Rd.CM (K1:=fun _=>True) (Rd.exp 5) (Rd.map (fun l=>exN 5 0 (a::l)) (NM (Kr:=noT sEx) Vf WR (by simp) (fun x hx M hM=>hE x (hk x (Ae _ hx)) M (by omega)))) (fun _ _=>trivial))) (fun k _=>Vf _)
 · simp [nmB,nuB,nsB,asB,nkB] at hnm hnu hns has hnk
   subst hnu hns has
   unfold Hp
   iterate 2 refine Rd.CN (fun k _=>by simp [tkN,hdK]) ?_
   refine Rd.Vx (Rd.CM (K1:=fun _=>True) (Rd.take n) (Rd.map (fun l=>Ex.mk 6 n 0 [] l []) ((V3 (N:=N - 1) (Kr:=noT sEx) Vf WR ks (fun x hx M hM=>hE x (hk x hx) M (by omega))).imp (fun k hb hks=>hb (by simp [Ld,hks])))) (fun _ _=>trivial))
 · simp [lvl] at hl
 · simp [lvl] at hl
 · simp [lvl] at hl
 · simp [lvl] at hl
 · simp [lvl] at hl
 · simp [lvl] at hl
 · exfalso
   have:EN u=5:=hl
   unfold EN at this;split at this
   · omega
   · split at this<;>omega
 · simp [nmB,nuB,nsB,asB,nkB] at hnm hnu hns has hnk
   subst hnm hns has
   have hu:u=1∨u=2∨u=3∨u=4∨u=5∨u=6∨u=7:=by omega
   unfold Hp
   rcases hu with rfl|rfl|rfl|rfl|rfl|rfl|rfl
   · obtain ⟨a,b,rfl⟩:=R7 (by simpa [Hq] using hnk)
     iterate 3 refine Rd.CN (fun k _=>by simp [tkN,prT,hdK]) ?_
     iterate 6 refine Rd.BR (fun k _=>by simp [tkN,prT,hdT]) ?_
     exact Rd.Bz 4 (Rd.map (fun l=>exN 14 1 l) (V1 (hE.mono (by omega)) (hk a (by simp)) (hk b (by simp))))
   · obtain ⟨a,b,rfl⟩:=R7 (by simpa [Hq] using hnk)
     iterate 3 refine Rd.CN (fun k _=>by simp [tkN,prT,hdK]) ?_
     iterate 7 refine Rd.BR (fun k _=>by simp [tkN,prT,hdT]) ?_
     exact Rd.Bz 4 (Rd.map (fun l=>exN 14 2 l) (V1 (hE.mono (by omega)) (hk a (by simp)) (hk b (by simp))))
   · obtain ⟨a,b,c,rfl⟩:=bT (by simpa [Hq] using hnk)
     iterate 3 refine Rd.CN (fun k _=>by simp [tkN,prT,hdK]) ?_
     iterate 8 refine Rd.BR (fun k _=>by simp [tkN,prT,hdT]) ?_
     exact Rd.Bz 4 (Rd.map (fun l=>exN 14 3 l) (jN (hE.mono (by omega)) (hk a (by simp)) (hk b (by simp)) (hk c (by simp))))
   · obtain ⟨a,rfl⟩:=Uw (by simpa [Hq] using hnk)
     iterate 3 refine Rd.CN (fun k _=>by simp [tkN,prT,hdK]) ?_
     iterate 9 refine Rd.BR (fun k _=>by simp [tkN,prT,hdT]) ?_
     exact Rd.Bz 4 (Rd.map (fun l=>exN 14 4 l) (Sq (hE.mono (by omega)) (hk a (by simp))))
   · obtain ⟨a,rfl⟩:=Uw (by simpa [Hq] using hnk)
     iterate 3 refine Rd.CN (fun k _=>by simp [tkN,prT,hdK]) ?_
     iterate 10 refine Rd.BR (fun k _=>by simp [tkN,prT,hdT]) ?_
     exact Rd.Bz 4 (Rd.map (fun l=>exN 14 5 l) (Sq (hE.mono (by omega)) (hk a (by simp))))
   · obtain ⟨a,rfl⟩:=Uw (by simpa [Hq] using hnk)
     iterate 3 refine Rd.CN (fun k _=>by simp [tkN,prT,hdK]) ?_
     iterate 11 refine Rd.BR (fun k _=>by simp [tkN,prT,hdT]) ?_
     exact Rd.Bz 4 (Rd.map (fun l=>exN 14 6 l) (Sq (hE.mono (by omega)) (hk a (by simp))))
   · obtain ⟨a,b,rfl⟩:=R7 (by simpa [Hq] using hnk)
     iterate 3 refine Rd.CN (fun k _=>by simp [tkN,prT,hdK]) ?_
     iterate 12 refine Rd.BR (fun k _=>by simp [tkN,prT,hdT]) ?_
     exact Rd.Bz 4 (Rd.map (fun l=>exN 14 7 l) (V1 (hE.mono (by omega)) (hk a (by simp)) (hk b (by simp))))
 · simp [nmB,nuB,nsB,asB,nkB] at hnm hnu hns has hnk
   subst hnm hns has hnk
   show Rd N (Hp E) _ ((4,[116,105,99,107])::(5,[40])::(SK u++[(5,[41])])) _
   unfold Hp
   iterate 3 refine Rd.CN (fun k _=>by simp [hdK]) ?_
   iterate 4 refine Rd.BR (fun k _=>by simp [hdT]) ?_
   refine Rd.Bz 4 (Rd.CM (K1:=fun _=>True) (Rd.exp 5) (Rd.bind (K1:=fun _=>True) (a:=u) ?_ (Rd.CM (K1:=fun _=>True) (Rd.exp 5) (Rd.pure _) (fun _ _=>trivial)) (fun _ _=>trivial)) (fun _ _=>trivial))
   unfold SK
   split
   · have e1:u=-((u.natAbs:Nat):Int):=by omega
     refine Rd.Bz 5 ?_
     have:=Rd.map (K:=fun _=>True) (fun n=>-n) (YK (N:=N - 1 - 1 - 1) (n:=u.natAbs) (by omega))
     rw [← e1] at this
     exact this
   · have e1:u=((u.toNat:Nat):Int):=by omega
     refine Rd.BR (fun k _=>Mi (rI _) (by decide)) ?_
     have:=YK (N:=N - 1 - 1) (K:=fun _=>True) (n:=u.toNat) (by omega)
     rw [← e1] at this
     exact this
 · simp [nmB,nuB,nsB,asB,nkB] at hnm hnu hns has hnk
   subst hnm hnu hns has
   obtain ⟨a,rfl⟩:=Uw hnk
   unfold Hp
   iterate 3 refine Rd.CN (fun k _=>by simp [tkN,hdK]) ?_
   iterate 5 refine Rd.BR (fun k _=>by simp [tkN,hdT]) ?_
   exact Rd.Bz 4 (Rd.map (fun l=>exN 16 0 l) (Sq (hE.mono (by omega)) (hk a (by simp))))
 · simp [lvl] at hl
end Go.Ab
