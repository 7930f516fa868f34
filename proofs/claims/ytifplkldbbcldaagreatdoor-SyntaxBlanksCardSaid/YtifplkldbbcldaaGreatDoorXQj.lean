/- Reading the tokens of a formatted text back, in plain data: the rules. Reading the tokens of a formatted text back, in plain data: types. Reading the tokens of a formatted text back, in plain data: expressions. Conditions: none. -/
import Derived.Test.YtifplkldbbcldaaGreatDoorXQg
set_option linter.unusedSimpArgs false
set_option linter.unusedVariables false
set_option maxRecDepth 4000
set_option maxHeartbeats 8000000
open Nat renaming le_trans→Az,le_refl→A7,zero_le→CC
open List renaming append_assoc→AR,length_drop→Ad,drop_drop→Ce,length_append→AA,append_nil→A0,length_cons→AD,map_cons→AE,flatten_cons→C1,mem_cons_of_mem→Ae,mem_cons_self→A9,length→Mf,all_eq_true→A4,map_append→B1,map_nil→AH,contains_eq_mem→Dd,length_pos_iff→Aq,cons_append→AU
open Bool renaming or_true→NO,or_eq_true→BE,and_eq_true→AK,eq_false_iff→GO
namespace Go.Ab
def hdT (k:List KT):Str:=(k.headD (6,[])).2
def hdK (k:List KT):Int:=(k.headD (6,[])).1
def noT (l:List Str) (k:List KT):Prop:=l.contains (hdT k)=false
def Rd {α:Type} (N:Nat) (m:PM α) (a:α) (ks:List KT) (K:List KT→Prop):Prop:=
 ∀r p k,r.length≤N→r.length≤17000→strip r=ks++k→K k→m.run ⟨r,false,p⟩=(a,⟨r.drop ks.length,false,p⟩)
def Ac (N:Nat) (m:PM Ex) (c:Nat→Ex→PM Ex) (e:Ex) (ks:List KT) (K:List KT→Prop):Prop:=
 ∃j,j≤ks.length∧∀r p k,r.length≤N→r.length≤17000→strip r=ks++k→K k→m.run ⟨r,false,p⟩=(c (BC - j) e).run ⟨r.drop ks.length,false,p⟩
variable {α β:Type} {N:Nat} {K:List KT→Prop}
theorem OH (r:List Tok):(strip r).length=r.length:=by simp [strip]
theorem Je {r:List Tok} {ks k:List KT} (h:strip r=ks++k):strip (r.drop ks.length)=k:=by
 have:=congrArg (List.drop ks.length) h
 rw [List.drop_left] at this
 rw [← this,strip,strip,List.map_drop]
theorem Fy {r:List Tok} {k:List KT} (h:strip r=k):(r.headD Sp).text=hdT k∧(r.headD Sp).kind=hdK k:=by
 subst h
 cases r with
 |nil=>exact ⟨rfl,rfl⟩
 |cons t l=>exact ⟨rfl,rfl⟩
theorem Rd.mono {m:PM α} {a:α} {ks:List KT} {M:Nat} (h:Rd N m a ks K) (hM:M≤N):Rd M m a ks K:=fun r p k h1=>h r p k (Az h1 hM)
theorem Rd.imp {m:PM α} {a:α} {ks:List KT} {K':List KT→Prop} (h:Rd N m a ks K) (hK:∀k,K' k→K k):Rd N m a ks K':=fun r p k h1 h2 h3 h4=>h r p k h1 h2 h3 (hK k h4)
theorem Rd.pure (a:α):Rd N (.pure a) a [] K:=fun _ _ _ _ _ _ _=>rfl
theorem Rd.bind {m:PM α} {f:α→PM β} {a:α} {b:β} {k1 k2:List KT} {K1:List KT→Prop} (h1:Rd N m a k1 K1) (h2:Rd (N - k1.length) (f a) b k2 K) (hK:∀k,K k→K1 (k2++k)):Rd N (m.bind f) b (k1++k2) K:=fun r p k hN hL hs hk=>by
 rw [AR] at hs
 have e1:=h1 r p (k2++k) hN hL hs (hK k hk)
 have e2:=h2 (r.drop k1.length) p k (by rw [Ad];omega) (by rw [Ad];omega) (Je hs) hk
 show (f (m.run ⟨r,false,p⟩).1).run (m.run ⟨r,false,p⟩).2=_
 rw [e1]
 show (f a).run ⟨r.drop k1.length,false,p⟩=_
 rw [e2,Ce,AA]
theorem Rd.CN {m:PM α} {f:α→PM β} {a:α} {b:β} {q:KT} {k2:List KT} {K1:List KT→Prop} (h1:Rd N m a [q] K1) (h2:Rd (N - 1) (f a) b k2 K) (hK:∀k,K k→K1 (k2++k)):Rd N (m.bind f) b (q::k2) K:=Rd.bind h1 h2 hK
theorem Rd.map {m:PM α} {a:α} {ks:List KT} (g:α→β) (h:Rd N m a ks K):Rd N (m.map g) (g a) ks K:=by
 have:=Rd.bind (f:=fun a=>PM.pure (g a)) h (Rd.pure (K:=K) (g a)) (fun k h=>h)
 rwa [A0] at this
theorem Rd.CB {t:Str} {ht:t≠[]} {y n:PM α} {a:α} {ks:List KT} (q:Int) (h:Rd (N - 1) y a ks K):Rd N (.acc t ht y n) a ((q,t)::ks) K:=fun r p k hN hL hs hk=>by
 have hh:=(Fy hs).1
 rw [mS (by rw [hh];simp [hdT])]
 have e:=h r.tail p k (by rw [List.length_tail];omega) (by rw [List.length_tail];omega) (by have:=Je (ks:=[(q,t)]) hs;simpa using this) hk
 rw [e,AD,← List.drop_one,Ce,Nat.add_comm]
theorem Rd.BS {t:Str} {ht:t≠[]} {y n:PM α} {a:α} {ks:List KT} (hn:∀k,K k→hdT (ks++k)≠t) (h:Rd N n a ks K):Rd N (.acc t ht y n) a ks K:=fun r p k hN hL hs hk=>by
 have hh:=(Fy hs).1
 rw [Qf (by rw [hh];simpa using hn k hk)]
 exact h r p k hN hL hs hk
theorem Rd.WM {k0:Int} {y n:PM α} {a:α} {t:Str} {ks:List KT} (h:Rd N y a ((k0,t)::ks) K):Rd N (.kind k0 y n) a ((k0,t)::ks) K:=fun r p k hN hL hs hk=>by
 have hh:=(Fy hs).2
 have e:(PM.kind k0 y n).run ⟨r,false,p⟩=y.run ⟨r,false,p⟩:=if_pos (by rw [PSt.hd,hh];simp [hdK])
 rw [e];exact h r p k hN hL hs hk
theorem Rd.CO {k0:Int} {y n:PM α} {a:α} {ks:List KT} (hn:∀k,K k→hdK (ks++k)≠k0) (h:Rd N n a ks K):Rd N (.kind k0 y n) a ks K:=fun r p k hN hL hs hk=>by
 have hh:=(Fy hs).2
 have e:(PM.kind k0 y n).run ⟨r,false,p⟩=n.run ⟨r,false,p⟩:=if_neg (by rw [PSt.hd,hh];simpa using hn k hk)
 rw [e];exact h r p k hN hL hs hk
theorem drop1 (r:List Tok):r.drop 1=r.tail:=List.drop_one
theorem Rd.exp {t:Str} {ht:t≠[]} (q:Int):Rd N (PM.exp t ht) () [(q,t)] K:=fun r p k _ _ hs _=>by
 have hh:=(Fy hs).1
 have e:(PM.exp t ht).run ⟨r,false,p⟩=((),⟨r.tail,false,p⟩):=if_pos (by simp only [PSt.hd,hh];simp [hdT])
 rw [e,← drop1];rfl
theorem Rd.take {q:Int} {hq:q≠6} (s:Str):Rd N (PM.take q hq) s [(q,s)] K:=fun r p k _ _ hs _=>by
 obtain ⟨h1,h2⟩:=Fy hs
 have e:(PM.take q hq).run ⟨r,false,p⟩=((r.headD Sp).text,⟨r.tail,false,p⟩):=if_pos (by simp only [PSt.hd,h2];simp [hdK])
 rw [e,h1,← drop1];rfl
def YN (sep:Str) (g:α→List KT) (xs:List α):List KT:=(xs.map fun x=>(5,sep)::g x).flatten
theorem WJ (sep:Str) (g:α→List KT):∀(x:α) (xs:List α),[((5:Int),sep)].intercalate ((x::xs).map g)=g x++YN sep g xs
 |x,[]=>by simp [YN]
 |x,y::xs=>by
  have ih:=WJ sep g y xs
  simp only [AE] at ih ⊢
  rw [Yc,ih]
  simp [YN]
theorem YO (sep:Str) (g:α→List KT):∀xs:List α,xs.length≤(YN sep g xs).length
 |[]=>A7 _
 |x::xs=>by
  have:=YO sep g xs
  simp only [YN,AE,C1,AA,AD] at this ⊢;omega
theorem Xe {read:PM α} {sep:Str} {hsep:sep≠[]} {g:α→List KT} {Kr:List KT→Prop} (h5:∀k,Kr ((5,sep)::k)):∀(xs:List α) (n:Nat) (acc:List α) (N:Nat),xs.length≤n→(∀x∈xs,∀M,M≤N→Rd M read x (g x) Kr)→Rd N (EJ read sep hsep n acc) (acc++xs) (YN sep g xs) (fun k=>Kr k∧hdT k≠sep)
 |[],n,acc,N,_,_=>by
  rw [A0]
  cases n with
  |zero=>exact Rd.pure _
  |succ n=>exact Rd.BS (fun k hk=>hk.2) (Rd.pure _)
 |x::xs,0,acc,N,h,_=>by simp at h
 |x::xs,n+1,acc,N,h,hr=>by
  have ih:=Xe (hsep:=hsep) h5 xs n (acc++[x]) (N - 1 - (g x).length) (by simp at h;omega) (fun y hy M hM=>hr y (Ae _ hy) M (by omega))
  rw [AR] at ih
  refine Rd.CB 5 (Rd.bind (hr x (A9 ..) (N - 1) (by omega)) ih (fun k hk=>?_))
  cases xs with
  |nil=>exact hk.1
  |cons y ys=>exact h5 _
theorem Vd {read:PM α} {sep:Str} {hsep:sep≠[]} {g:α→List KT} {Kr:List KT→Prop} (h5:∀k,Kr ((5,sep)::k)) {xs:List α} (hne:xs≠[]) (hr:∀x∈xs,∀M,M≤N→Rd M read x (g x) Kr):Rd N (items read sep hsep) xs ([((5:Int),sep)].intercalate (xs.map g)) (fun k=>Kr k∧hdT k≠sep):=by
 cases xs with
 |nil=>exact absurd rfl hne
 |cons x xs=>
  rw [WJ]
  intro r p k hN hL hs hk
  have hlen:xs.length≤BC:=by
   have h1:=YO sep g xs
   have h2:=congrArg Mf hs
   rw [OH,AA,AA] at h2
   have:=FI
   omega
  refine Rd.bind (K1:=Kr) (hr x (A9 ..) N (A7 _)) (Xe h5 xs BC [x] (N - (g x).length) hlen (fun y hy M hM=>hr y (Ae _ hy) M (by omega))) (fun k hk=>?_) r p k hN hL hs hk
  cases xs with
  |nil=>exact hk.1
  |cons y ys=>exact h5 _
theorem NS {read:PM α} {g:α→List KT} {Kr:List KT→Prop} (h5:∀k,Kr ((5,[44])::k)) (h6:∀k,Kr ((5,[41])::k)) {xs:List α} (hne:xs≠[]) (hr:∀x∈xs,∀M,M≤N→Rd M read x (g x) Kr):Rd N (listed read) xs (cmK (xs.map g)++[(5,[41])]) K:=
 Rd.bind (Vd h5 hne hr) (Rd.CN (Rd.exp 5) (Rd.pure xs) (fun _ h=>h)) (fun k _=>⟨h6 k,by simp [hdT]⟩)
theorem sK {read:PM α} {g:α→List KT} {Kr:List KT→Prop} (h5:∀k,Kr ((5,[44])::k)) (h6:∀k,Kr ((5,[41])::k)) {xs:List α} (hne:xs≠[]) (hr:∀x∈xs,∀M,M+1≤N→Rd M read x (g x) Kr) (n:PM (List α)) (ht:[40]≠[]):Rd N (.acc [40] ht (listed read) n) xs (HV (cmK (xs.map g))) K:=by
 by_cases hN:N=0
 · subst hN
   intro r p k h1 _ hs _
   have:=congrArg Mf hs
   rw [OH] at this
   simp [HV] at this
   omega
 · exact Rd.CB 5 (NS h5 h6 hne (fun x hx M hM=>hr x hx M (by omega)))
theorem Ve {read:PM α} {g:α→List KT} {Kr:List KT→Prop} (h5:∀k,Kr ((5,[44])::k)) (h6:∀k,Kr ((5,[41])::k)) (xs:List α) (hr:∀x∈xs,∀M,M+1≤N→Rd M read x (g x) Kr):Rd N (Hf read) xs (T8 (xs.map g)) (fun k=>xs=[]→hdT k≠[40]):=by
 cases xs with
 |nil=>exact Rd.BS (fun k hk=>hk rfl) (Rd.pure _)
 |cons x xs=>exact sK h5 h6 (by simp) hr _ _
theorem YX {read:PM α} {g:α→List KT} {Kr:List KT→Prop} (h5:∀k,Kr ((5,[44])::k)) (h6:∀k,Kr ((5,[41])::k)) (xs:List α) (hr:∀x∈xs,∀M,M≤N→Rd M read x (g x) Kr) (hh:∀x∈xs,∀k,hdT (g x++k)≠[41]):Rd N (closed read) xs (cmK (xs.map g)++[(5,[41])]) K:=by
 cases xs with
 |nil=>exact Rd.CB 5 (Rd.pure _)
 |cons x xs=>
  refine Rd.BS (fun k _=>?_) (NS h5 h6 (by simp) hr)
  rw [cmK,WJ,AR,AR]
  exact hh x (A9 ..) _
theorem gD {s:Str} {k:Int} (hk:k=1∨k=2) (h:PB k s=true):Mo s=false:=by
 have:∀t,Cc s= .ok (k,t)→t=s→Mo s=false:=fun t ht e=>by
  subst e
  obtain ⟨h1,_,_⟩:=Wh 0 ht
  rcases h1 with ⟨_,h⟩|h|h|h
  · exact h
  · simp only at h;omega
  · simp only at h;omega
  · have:=h.1;simp only at this;omega
 rcases hk with rfl|rfl
 · obtain ⟨b,r,rfl,h1,h2,h3,h4⟩:=WS h
   refine this (b::r) ?_ rfl
   have ht:=XA (p:=Db Iy) (s:=b::r) (rest:=[]) h2 (fun _ _ e=>by cases e)
   rw [A0] at ht
   rw [Cc,ht,h1,(UO h1).2.2,h4,decide_eq_false (by omega)];rfl
 · obtain ⟨b,r,rfl,h1,h2,h3⟩:=Uc h
   refine this (b::r) ?_ rfl
   have ht:=XA (p:=Db Iy) (s:=b::r) (rest:=[]) h2 (fun _ _ e=>by cases e)
   rw [A0] at ht
   rw [Cc,ht,h1,decide_eq_false (by omega),NO];rfl
theorem Mp {s t:Str} (h:Mo s=false) (ht:Mo t=true):s≠t:=fun e=>by rw [e,ht] at h;cases h
theorem UP {s:Str} (h:Gy s=true):Mo s=false:=gD (.inl rfl) h
theorem gB {s:Str} (h:upperB s=true):Mo s=false:=gD (.inr rfl) h
theorem QB {s:Str} (h:Gp s=true):Rd N Fq s (shK s) K:=by
 unfold shK
 split
 · rename_i e;subst e;exact Rd.CB 5 (Rd.pure _)
 · rename_i e
   simp only [Gp,BE,beq_iff_eq] at h
   have hn:Gy s=true:=h.resolve_left e
   exact Rd.BS (fun k _=>Mp (UP hn) (by decide)) (Rd.take s)
end Go.Ab
namespace Go.Ab
variable {N:Nat} {K:List KT→Prop}
def noP (k:List KT):Prop:=hdT k≠[40]
theorem aP:∀ {d:Nat} {t:TE},Dc d t=true→∃q x l,HY t=(q,x)::l∧x≠[41]
 |0,.mk ..,h=>by cases h
 |d+1,.mk k n l,h=>by
  rw [Dc,AK] at h
  have h1:=h.1
  rw [HY,RW]
  rcases ZA h1 with rfl|rfl|rfl|rfl|rfl|rfl|rfl|rfl|rfl
  · exact ⟨_,_,_,rfl,by decide⟩
  · exact ⟨_,_,_,rfl,by decide⟩
  · exact ⟨_,_,_,rfl,by decide⟩
  · simp [Ct] at h1;exact ⟨_,_,_,rfl,Mp (UP h1.1) (by decide)⟩
  · simp [Ct] at h1;exact ⟨_,_,_,rfl,Mp (gB h1.1) (by decide)⟩
  · simp [Ct] at h1
    cases l with
    |nil=>simp at h1
    |cons a l=>exact ⟨_,_,_,rfl,by decide⟩
  · exact ⟨_,_,_,rfl,by decide⟩
  · exact ⟨_,_,_,rfl,by decide⟩
  · exact ⟨_,_,_,rfl,by decide⟩
theorem cB {q:Int} {x:Str} {l:List KT} {ks:List KT} (h:ks=(q,x)::l) (k:List KT):hdT (ks++k)=x∧hdK (ks++k)=q:=by
 subst h;exact ⟨rfl,rfl⟩
theorem Sx {α:Type} {m:PM α} {a:α} {q:Int} {x:Str} {l ks:List KT} (h:ks=(q,x)::l):Rd 0 m a ks K:=fun r p k h1 _ hs _=>by
 have:=congrArg Mf hs
 rw [OH,h] at this
 simp at this;omega
theorem IH {α:Type} {m:PM α} {a:α} {ks:List KT} (h:ks≠[]):Rd 0 m a ks K:=by
 cases ks with
 |nil=>exact absurd rfl h
 |cons x l=>exact Sx (q:=x.1) (x:=x.2) (l:=l) rfl
theorem RJ (x y:List KT) (l:List (List KT)):cmK (x::y::l)=x++((5,[44])::cmK (y::l)):=by
 unfold cmK;rw [Yc];rfl
theorem TK (x:List KT):cmK [x]=x:=eV _ x
theorem j9:∀(d:Nat) (t:TE),Dc d t=true→∀n N,N≤n→Rd N (FZ n) t (HY t) noP
 |0,.mk ..,h,_,_,_=>by cases h
 |d+1,.mk k nm l,h,0,N,hN=>by
  obtain ⟨q,x,r,e,_⟩:=aP h
  have:N=0:=by omega
  subst this
  exact Sx e
 |d+1,.mk k nm l,h,n+1,N,hN=>by
  rw [Dc,AK,A4] at h
  obtain ⟨h1,h2⟩:=h
  have ih:=fun x (hx:x∈l) M (hM:M+1≤N)=>j9 d x (h2 x hx) n M (by omega)
  have h5:∀k:List KT,noP ((5,[44])::k):=fun k=>by simp [noP,hdT]
  have h6:∀k:List KT,noP ((5,[41])::k):=fun k=>by simp [noP,hdT]
  rw [FZ,HY,RW]
  rcases ZA h1 with rfl|rfl|rfl|rfl|rfl|rfl|rfl|rfl|rfl
  · simp [Ct] at h1
    obtain ⟨rfl,rfl⟩:=h1
    exact Rd.CO (fun k _=>by simp [MU,hdK]) (Rd.CO (fun k _=>by simp [MU,hdK]) (Rd.CB 4 (Rd.pure _)))
  · simp [Ct] at h1
    obtain ⟨rfl,rfl⟩:=h1
    exact Rd.CO (fun k _=>by simp [MU,hdK]) (Rd.CO (fun k _=>by simp [MU,hdK]) (Rd.BS (fun k _=>by simp [MU,hdT]) (Rd.CB 4 (Rd.pure _))))
  · simp [Ct] at h1
    obtain ⟨rfl,rfl⟩:=h1
    exact Rd.CO (fun k _=>by simp [MU,hdK]) (Rd.CO (fun k _=>by simp [MU,hdK]) (Rd.BS (fun k _=>by simp [MU,hdT]) (Rd.BS (fun k _=>by simp [MU,hdT]) (Rd.CB 4 (Rd.pure _)))))
  · simp [Ct] at h1
    obtain ⟨h1,rfl⟩:=h1
    exact Rd.WM (Rd.map (fun x=>TE.mk 4 x []) (Rd.take nm))
  · exact Rd.CO (fun k _=>by simp [MU,hdK]) (Rd.WM (Rd.CN (K1:=fun _=>True) (Rd.take nm) (Rd.map (fun l=>TE.mk 5 nm l) ((Ve (N:=N - 1) h5 h6 l (fun x hx M hM=>ih x hx M (by omega))).imp (fun k hk _=>hk))) (fun _ _=>trivial)))
  · simp [Ct] at h1
    match l,h1,h2,ih with
    |a::b::l,h1,h2,ih=>
     have hs:MU 6 nm ((a::b::l).map HY)=(5,[40])::(HY a++((5,[44])::(cmK ((b::l).map HY)++[(5,[41])]))):=by
      show HV (cmK (HY a::HY b::l.map HY))=_
      rw [RJ,HV,AR];rfl
     rw [hs,h1.1.1]
     refine Rd.CO (fun k _=>by simp [hdK]) (Rd.CO (fun k _=>by simp [hdK]) (Rd.BS (fun k _=>by simp [hdT]) (Rd.BS (fun k _=>by simp [hdT]) (Rd.BS (fun k _=>by simp [hdT]) (Rd.BS (fun k _=>by simp [hdT]) (Rd.BS (fun k _=>by simp [hdT]) (Rd.CB 5 ?_)))))))
     by_cases hN0:N=0
     · subst hN0
       obtain ⟨q,x,r,e,_⟩:=aP (h2 a (by simp))
       refine Sx (q:=q) (x:=x) (l:=r++((5,[44])::(cmK ((b::l).map HY)++[(5,[41])]))) ?_
       rw [e];rfl
     · exact Rd.bind (ih a (by simp) (N - 1) (by omega)) (Rd.CN (K1:=fun _=>True) (Rd.exp 5) (Rd.map (fun l=>TE.mk 6 [] (a::l)) (NS h5 h6 (by simp) (fun x hx M hM=>ih x (Ae _ hx) M (by omega)))) (fun _ _=>trivial)) (fun k _=>h5 _)
  · simp [Ct] at h1
    obtain ⟨rfl,hl⟩:=h1
    obtain ⟨a,rfl⟩:=VH hl
    have hs:MU 7 [] ([a].map HY)=(4,[97,114,114,97,121])::(5,[40])::(HY a++[(5,[41])]):=by
     show (4,[97,114,114,97,121])::HV (cmK [HY a])=_
     rw [TK];rfl
    rw [hs]
    refine Rd.CO (fun k _=>by simp [hdK]) (Rd.CO (fun k _=>by simp [hdK]) (Rd.BS (fun k _=>by simp [hdT]) (Rd.BS (fun k _=>by simp [hdT]) (Rd.BS (fun k _=>by simp [hdT]) (Rd.CB 4 (Rd.CN (K1:=fun _=>True) (Rd.exp 5) ?_ (fun _ _=>trivial)))))))
    by_cases hN0:N=0
    · subst hN0
      obtain ⟨q,x,r,e,_⟩:=aP (h2 a (by simp))
      exact Sx (by rw [e];rfl)
    · exact Rd.bind (ih a (by simp) (N - 1 - 1) (by omega)) (Rd.CN (K1:=fun _=>True) (Rd.exp 5) (Rd.pure _) (fun _ _=>trivial)) (fun k _=>h6 _)
  · simp [Ct] at h1
    obtain ⟨rfl,hl⟩:=h1
    obtain ⟨a,rfl⟩:=VH hl
    have hs:MU 8 [] ([a].map HY)=(4,[114,101,102])::(5,[40])::(HY a++[(5,[41])]):=by
     show (4,[114,101,102])::HV (cmK [HY a])=_
     rw [TK];rfl
    rw [hs]
    refine Rd.CO (fun k _=>by simp [hdK]) (Rd.CO (fun k _=>by simp [hdK]) (Rd.BS (fun k _=>by simp [hdT]) (Rd.BS (fun k _=>by simp [hdT]) (Rd.BS (fun k _=>by simp [hdT]) (Rd.BS (fun k _=>by simp [hdT]) (Rd.CB 4 (Rd.CN (K1:=fun _=>True) (Rd.exp 5) ?_ (fun _ _=>trivial))))))))
    by_cases hN0:N=0
    · subst hN0
      obtain ⟨q,x,r,e,_⟩:=aP (h2 a (by simp))
      exact Sx (by rw [e];rfl)
    · exact Rd.bind (ih a (by simp) (N - 1 - 1) (by omega)) (Rd.CN (K1:=fun _=>True) (Rd.exp 5) (Rd.pure _) (fun _ _=>trivial)) (fun k _=>h6 _)
  · simp [Ct] at h1
    obtain ⟨⟨rfl,hl⟩,_⟩:=h1
    obtain ⟨m,x,rfl⟩:=Se hl
    have hs:MU 9 [] ((m++[x]).map HY)=(4,[102,110])::(5,[40])::((cmK (m.map HY)++[(5,[41])])++((5,[45,62])::HY x)):=by
     show (4,[102,110])::(Kn ((m++[x]).map HY).dropLast++((5,[45,62])::((m++[x]).map HY).getLastD []))=_
     simp only [B1,AE,AH,List.dropLast_concat,List.getLastD_concat]
     rfl
    rw [hs]
    refine Rd.CO (fun k _=>by simp [hdK]) (Rd.CO (fun k _=>by simp [hdK]) (Rd.BS (fun k _=>by simp [hdT]) (Rd.BS (fun k _=>by simp [hdT]) (Rd.BS (fun k _=>by simp [hdT]) (Rd.BS (fun k _=>by simp [hdT]) (Rd.BS (fun k _=>by simp [hdT]) (Rd.BS (fun k _=>by simp [hdT]) (Rd.CB 4 (Rd.CN (K1:=fun _=>True) (Rd.exp 5) ?_ (fun _ _=>trivial))))))))))
    by_cases hN0:N=0
    · subst hN0
      exact IH (by simp)
    · refine Rd.bind (K1:=fun _=>True) (YX h5 h6 m (fun y hy M hM=>ih y (List.mem_append_left _ hy) M (by omega)) (fun y hy k=>?_)) (Rd.CN (K1:=fun _=>True) (Rd.exp 5) (Rd.map (fun t=>TE.mk 9 [] (m++[t])) (ih x (by simp) _ (by omega))) (fun _ _=>trivial)) (fun _ _=>trivial)
      obtain ⟨q,z,r,e,hz⟩:=aP (h2 y (List.mem_append_left _ hy))
      rw [(cB e k).1];exact hz
theorem sI {c:CE} (h:UA c=true) (hN:N≤BC):Rd N Zv c (tkC c) noP:=by
 simp only [UA,AK,A4] at h
 refine Rd.CN (K1:=fun _=>True) (Rd.take c.name) (Rd.map (fun l=>CE.mk c.name l) ((Ve (Kr:=noP) (fun k=>by simp [noP,hdT]) (fun k=>by simp [noP,hdT]) c.args (fun x hx M hM=>j9 40 x (h.2 x hx) BC M (by omega))).imp (fun k hk _=>hk))) (fun _ _=>trivial)
theorem oK {d:DE} (h:IY d=true) (hN:N≤BC):Rd N SN d ((2,d.name)::(T8 (d.vars.map fun s=>[(1,s)])++((5,[61])::([((5:Int),[124])].intercalate (d.cons.map tkC)++[(5,[59])])))) K:=by
 simp only [IY,AK,A4,decide_eq_true_eq] at h
 obtain ⟨⟨⟨⟨⟨h1,h2⟩,h3⟩,h4⟩,h5⟩,h6⟩:=h
 have hne:d.cons≠[]:=by intro e;rw [e] at h4;simp at h4
 refine Rd.CN (K1:=fun _=>True) (Rd.take d.name) (Rd.bind (Ve (Kr:=fun _=>True) (g:=fun s=>[(1,s)]) (fun _=>trivial) (fun _=>trivial) d.vars (fun s hs M _=>Rd.take s)) (Rd.CN (K1:=fun _=>True) (Rd.exp 5) (Rd.bind (Vd (g:=tkC) (Kr:=noP) (fun k=>by simp [noP,hdT]) hne (fun c hc M hM=>sI (h6 c hc) (by omega))) (Rd.CN (K1:=fun _=>True) (Rd.exp 5) (Rd.pure _) (fun _ _=>trivial)) (fun k _=>⟨by simp [noP,hdT],by simp [hdT]⟩)) (fun _ _=>trivial)) (fun k _ _=>by simp [hdT])) (fun _ _=>trivial)
end Go.Ab
namespace Go.Ab
variable {N:Nat} {K:List KT→Prop}
def opens:List Str:=[[108,101,116],[105,102],[109,97,116,99,104],[102,110],[116,114,121]]
def FM (ks:List KT) (b:Prop):Prop:=∃q x l,ks=(q,x)::l∧x≠[41]∧(b→opens.contains x=false)
theorem xI {x:Str} {l:List Str} (h:Mo x=false) (hl:l.all Mo=true):l.contains x=false:=by
 rw [GO]
 intro hc
 have hm:x∈l:=by simpa [Dd] using hc
 have:=A4.1 hl x hm
 rw [h] at this;cases this
theorem sD (n:Nat):Mo (Lib.decDigits n)=false:=by
 rw [GO]
 intro hw
 obtain ⟨b,l,e,_,h,_⟩:=RX hw
 have:=bX n b (by rw [e];exact A9 ..)
 simp only [Db] at this
 rw [h] at this;cases this
theorem FM.par {t:List KT} {b:Prop}:FM (HV t) b:=⟨_,_,_,rfl,by decide,fun _=>by decide⟩
theorem FM.app {t k:List KT} {b:Prop} (h:FM t b):FM (t++k) b:=by
 obtain ⟨q,x,l,rfl,h1,h2⟩:=h
 exact ⟨q,x,l++k,rfl,h1,h2⟩
theorem FM.c {q:Int} {x:Str} {l:List KT} {b:Prop} (h1:x≠[41]) (h2:b→opens.contains x=false):FM ((q,x)::l) b:=⟨q,x,l,rfl,h1,h2⟩
theorem FM.w {q:Int} {x:Str} {l:List KT} {b:Prop} (h:Mo x=false):FM ((q,x)::l) b:=⟨q,x,l,rfl,Mp h (by decide),fun _=>xI h (by decide)⟩
theorem FM.plK {d:Nat} {e:Ex} {t:List KT} (hd:1≤d) (h:FM t (1≤lvl e)) {b:Prop}:FM (plK d e t) b:=by
 unfold Ab.plK
 split
 · exact FM.par
 · rename_i hl
   obtain ⟨q,x,l,e1,h1,h2⟩:=h
   exact ⟨q,x,l,e1,h1,fun _=>h2 (by omega)⟩
theorem Zu (u:Int):1≤EY u:=by
 unfold EY;split
 · omega
 · split<;>omega
theorem r9:∀(s:Nat) (e:Ex),e.size≤s→e.nb→FM (tkE e) (1≤lvl e)
 |0,e,hs,_=>by have:=e.size_pos;omega
 |s+1,.mk o n u ns ks al,hs,h=>by
  rw [Ex.nb,Ex.Mk] at h
  obtain ⟨hn,hk,_⟩:=h
  have ih:∀x∈ks,FM (tkE x) (1≤lvl x):=fun x hx=>r9 s x (by have:=Ex.Sf hx;simp only [Ex.size] at hs;omega) (hk x hx)
  simp only [Gc,AK] at hn
  obtain ⟨⟨⟨⟨hnm,hnu⟩,hns⟩,has⟩,hnk⟩:=hn
  rw [tkE,MT,MS]
  rcases fI hnk with rfl|rfl|rfl|rfl|rfl|rfl|rfl|rfl|rfl|rfl|rfl|rfl|rfl|rfl|rfl|rfl|rfl
  · exact FM.c (by decide) (fun _=>by decide)
  · show FM (if u=1 then [(4,[116,114,117,101])] else [(4,[102,97,108,115,101])]) _
    split
    · exact FM.c (by decide) (fun _=>by decide)
    · exact FM.c (by decide) (fun _=>by decide)
  · show FM (SQ u) _
    unfold SQ
    split
    · exact FM.c (by decide) (fun _=>by decide)
    · exact FM.w (sD _)
  · exact FM.w (UP (by simpa [nmB] using hnm))
  · exact FM.par
  · exact FM.w (gB (by simpa [nmB] using hnm))
  · exact FM.c (by decide) (fun hl=>by simp [lvl] at hl)
  · exact FM.c (by decide) (fun hl=>by simp [lvl] at hl)
  · exact FM.c (by decide) (fun hl=>by simp [lvl] at hl)
  · exact FM.c (by decide) (fun hl=>by simp [lvl] at hl)
  · exact FM.c (by decide) (fun hl=>by simp [lvl] at hl)
  · cases ks with
    |nil=>simp [nkB] at hnk
    |cons f l=>
     show FM ((if Lh f then HV (tkE f) else plK 4 f (tkE f))++Kn (l.map tkE)) _
     refine FM.app ?_
     split
     · exact FM.par
     · exact FM.plK (by omega) (ih f (by simp))
  · obtain ⟨a,b,rfl⟩:=Re (by simpa [nkB] using hnk)
    exact (FM.plK (by have:=Zu u;split<;>omega) (ih a (by simp))).app
  · show FM ((4,prT u)::Kn (ks.map tkE)) _
    unfold prT
    repeat' split
    all_goals exact FM.c (by decide) (fun _=>by decide)
  · exact FM.c (by decide) (fun _=>by decide)
  · exact FM.c (by decide) (fun _=>by decide)
  · exact FM.c (by decide) (fun hl=>by simp [lvl] at hl)
theorem tK {e:Ex} (h:e.nb):FM (tkE e) (1≤lvl e):=r9 e.size e (A7 _) h
theorem lC {e:Ex} (h:e.nb) (k:List KT):hdT (tkE e++k)≠[41]:=by
 obtain ⟨q,x,l,e1,h1,_⟩:=tK h
 rw [(cB e1 k).1];exact h1
theorem eS {e:Ex} (h:e.nb):tkE e≠[]:=by
 obtain ⟨q,x,l,e1,_⟩:=tK h
 rw [e1];simp
def Gs (N:Nat) (m m':PM Ex) (ks:List KT) (K:List KT→Prop):Prop:=
 ∀r p k,r.length≤N→r.length≤17000→strip r=ks++k→K k→m.run ⟨r,false,p⟩=m'.run ⟨r.drop ks.length,false,p⟩
theorem Gs.refl (m:PM Ex):Gs N m m [] K:=fun _ _ _ _ _ _ _=>rfl
theorem Gs.bind {α:Type} {m:PM α} {f:α→PM Ex} {m':PM Ex} {a:α} {k1 k2:List KT} {K1:List KT→Prop} (h1:Rd N m a k1 K1) (h2:Gs (N - k1.length) (f a) m' k2 K) (hK:∀k,K k→K1 (k2++k)):Gs N (m.bind f) m' (k1++k2) K:=fun r p k hN hL hs hk=>by
 rw [AR] at hs
 have e1:=h1 r p (k2++k) hN hL hs (hK k hk)
 have e2:=h2 (r.drop k1.length) p k (by rw [Ad];omega) (by rw [Ad];omega) (Je hs) hk
 show (f (m.run ⟨r,false,p⟩).1).run (m.run ⟨r,false,p⟩).2=_
 rw [e1]
 show (f a).run ⟨r.drop k1.length,false,p⟩=_
 rw [e2,Ce,AA]
theorem Gs.last {α:Type} {m:PM α} {f:α→PM Ex} {a:α} {k1:List KT} (h1:Rd N m a k1 K):Gs N (m.bind f) (f a) k1 K:=by
 have:=Gs.bind (m':=f a) (K:=K) h1 (Gs.refl (f a)) (fun k h=>h)
 rwa [A0] at this
theorem Gs.CB {t:Str} {ht:t≠[]} {y n m':PM Ex} {ks:List KT} (q:Int) (h:Gs (N - 1) y m' ks K):Gs N (.acc t ht y n) m' ((q,t)::ks) K:=fun r p k hN hL hs hk=>by
 have hh:=(Fy hs).1
 rw [mS (by rw [hh];simp [hdT])]
 have e:=h r.tail p k (by rw [List.length_tail];omega) (by rw [List.length_tail];omega) (by have:=Je (ks:=[(q,t)]) hs;simpa using this) hk
 rw [e,AD,← List.drop_one,Ce,Nat.add_comm]
theorem Gs.BS {t:Str} {ht:t≠[]} {y n m':PM Ex} {ks:List KT} (hn:∀k,K k→hdT (ks++k)≠t) (h:Gs N n m' ks K):Gs N (.acc t ht y n) m' ks K:=fun r p k hN hL hs hk=>by
 have hh:=(Fy hs).1
 rw [Qf (by rw [hh];simpa using hn k hk)]
 exact h r p k hN hL hs hk
theorem Ac.of {m:PM Ex} {c:Nat→Ex→PM Ex} {e:Ex} {ks:List KT} (h:Rd N m e ks K):Ac N (m.bind fun a=>c BC a) c e ks K:=⟨0,CC _,Gs.last (f:=fun a=>c BC a) h⟩
theorem Ac.step {m:PM Ex} {c:Nat→Ex→PM Ex} {a e:Ex} {k1 k2:List KT} {K1:List KT→Prop} (h1:Ac N m c a k1 K1) (h2:∀n,Gs (N - k1.length) (c (n+1) a) (c n e) k2 K) (hk2:k2≠[]) (hK:∀k,K k→K1 (k2++k)):Ac N m c e (k1++k2) K:=by
 obtain ⟨j,hj,h1⟩:=h1
 have hl2:1≤k2.length:=Aq.2 hk2
 refine ⟨j+1,by rw [AA];omega,fun r p k hN hL hs hk=>?_⟩
 have hsl:=congrArg Mf hs
 rw [OH,AA,AA] at hsl
 rw [AR] at hs
 have e1:=h1 r p (k2++k) hN hL hs (hK k hk)
 have hf:=FI
 have e2:=h2 (BC - (j+1)) (r.drop k1.length) p k (by rw [Ad];omega) (by rw [Ad];omega) (Je hs) hk
 rw [e1,show BC - j=BC - (j+1)+1 by omega,e2,Ce,AA]
theorem Ac.fin {m:PM Ex} {c:Nat→Ex→PM Ex} {e:Ex} {ks:List KT} {K':List KT→Prop} (h:Ac N m c e ks K) (hK:∀k,K' k→K k) (hc:∀n r p,K' (strip r)→(c n e).run ⟨r,false,p⟩=(e,⟨r,false,p⟩)):Rd N m e ks K':=by
 obtain ⟨j,_,h⟩:=h
 intro r p k hN hL hs hk
 rw [h r p k hN hL hs (hK k hk)]
 exact hc _ _ _ (by rw [Je hs];exact hk)
theorem Ac.imp {m:PM Ex} {c:Nat→Ex→PM Ex} {e:Ex} {ks:List KT} {K':List KT→Prop} (h:Ac N m c e ks K) (hK:∀k,K' k→K k):Ac N m c e ks K':=by
 obtain ⟨j,hj,h⟩:=h
 exact ⟨j,hj,fun r p k hN hL hs hk=>h r p k hN hL hs (hK k hk)⟩
theorem NC {l:List Str} {k:List KT} (h:noT l k) {t:Str} (ht:l.contains t=true):hdT k≠t:=fun e=>by
 unfold noT at h;rw [e,ht] at h;cases h
theorem N5 (r:List Tok):(r.headD Sp).text=hdT (strip r):=(Fy rfl).1
theorem Xi {E:PM Ex}:∀n e r p,hdT (strip r)≠[40]→(SY E n e).run ⟨r,false,p⟩=(e,⟨r,false,p⟩)
 |0,e,r,p,_=>rfl
 |n+1,e,r,p,h=>by
  rw [SY,Qf (by rw [N5];simpa using h)];rfl
def sPr:List Str:=[[40],[42],[47],[37]]
def sSu:List Str:=[[40],[42],[47],[37],[43],[45]]
def sEx:List Str:=[[40],[42],[47],[37],[43],[45],[60],[60,61],[61,61]]
theorem T6 {l m:List Str} (hs:m.all (fun t=>l.contains t)=true) {k:List KT} (h:noT l k):noT m k:=by
 unfold noT at h ⊢
 rw [GO] at h ⊢
 intro hc
 have hm:hdT k∈m:=by simpa [Dd] using hc
 exact h (A4.1 hs _ hm)
theorem W1 {E:PM Ex}:∀n e r p,noT sPr (strip r)→(JV E n e).run ⟨r,false,p⟩=(e,⟨r,false,p⟩)
 |0,e,r,p,_=>rfl
 |n+1,e,r,p,h=>by
  rw [JV,Qf (by rw [N5];simpa using NC h (t:=[42]) (by decide)),Qf (by rw [N5];simpa using NC h (t:=[47]) (by decide)),Qf (by rw [N5];simpa using NC h (t:=[37]) (by decide))];rfl
theorem jX {E:PM Ex}:∀n e r p,noT sSu (strip r)→(Rl E n e).run ⟨r,false,p⟩=(e,⟨r,false,p⟩)
 |0,e,r,p,_=>rfl
 |n+1,e,r,p,h=>by
  rw [Rl,Qf (by rw [N5];simpa using NC h (t:=[43]) (by decide)),Qf (by rw [N5];simpa using NC h (t:=[45]) (by decide))];rfl
def HE (E:PM Ex) (N:Nat):Prop:=∀x:Ex,x.nb→∀M,M+1≤N→Rd M E x (tkE x) (noT sEx)
theorem HE.mono {E:PM Ex} {M:Nat} (h:HE E N) (hM:M≤N):HE E M:=fun x hx M' h'=>h x hx M' (by omega)
theorem W4 (k:List KT):noT sEx ((5,[41])::k):=by show sEx.contains [41]=false;decide
theorem Vq (k:List KT):noT sEx ((5,[44])::k):=by show sEx.contains [44]=false;decide
theorem Vf {E:PM Ex} (hE:HE E N) {e:Ex} (h:e.nb):Rd N (Hv E) e (HV (tkE e)) K:=by
 by_cases hN:N=0
 · subst hN;exact IH (by simp [HV])
 unfold HV Hv
 iterate 3 refine Rd.CO (fun k _=>by simp [hdK]) ?_
 iterate 3 refine Rd.BS (fun k _=>by simp [hdT]) ?_
 refine Rd.CB 5 ?_
 unfold Yq
 refine Rd.BS (fun k _=>by rw [AR];exact lC h _) ?_
 exact Rd.bind (hE e h (N - 1) (by omega)) (Rd.CB 5 (Rd.pure e)) (fun k _=>W4 k)
theorem Ym {o u:Int} {n:Str} {ns:List Str} {ks:List Ex} {al:List Al} (h:(Ex.mk o n u ns ks al).nb):nmB o n=true∧nuB o u=true∧nsB o ns=true∧asB o al=true∧nkB o u ks.length=true∧(∀x∈ks,x.nb)∧∀a∈al,a.nb:=by
 rw [Ex.nb,Ex.Mk,Al.Mk] at h
 obtain ⟨hn,hk,ha⟩:=h
 simp only [Gc,AK] at hn
 obtain ⟨⟨⟨⟨hnm,hnu⟩,hns⟩,has⟩,hnk⟩:=hn
 exact ⟨hnm,hnu,hns,has,hnk,hk,ha⟩
theorem Sw {E:PM Ex} (hE:HE E N) {a:Ex} (h:a.nb):Rd N (NF E) [a] (Kn [tkE a]) K:=by
 unfold Kn;rw [TK];unfold HV NF
 by_cases hN:N=0
 · subst hN;exact IH (by simp)
 exact Rd.CN (K1:=fun _=>True) (Rd.exp 5) (Rd.bind (hE a h _ (by omega)) (Rd.CN (K1:=fun _=>True) (Rd.exp 5) (Rd.pure _) (fun _ _=>trivial)) (fun k _=>W4 k)) (fun _ _=>trivial)
theorem Vc {E:PM Ex} (hE:HE E N) {a b:Ex} (h:a.nb) (h2:b.nb):Rd N (Qd E) [a,b] (Kn [tkE a,tkE b]) K:=by
 unfold Kn;rw [RJ,TK];unfold HV Qd
 by_cases hN:N=0
 · subst hN;exact IH (by simp)
 rw [AR,AU]
 exact Rd.CN (K1:=fun _=>True) (Rd.exp 5) (Rd.bind (hE a h _ (by omega)) (Rd.CN (K1:=fun _=>True) (Rd.exp 5) (Rd.bind (hE b h2 _ (by omega)) (Rd.CN (K1:=fun _=>True) (Rd.exp 5) (Rd.pure _) (fun _ _=>trivial)) (fun k _=>W4 k)) (fun _ _=>trivial)) (fun k _=>Vq _)) (fun _ _=>trivial)
theorem j8 {E:PM Ex} (hE:HE E N) {a b c:Ex} (h:a.nb) (h2:b.nb) (h3:c.nb):Rd N (Yp E) [a,b,c] (Kn [tkE a,tkE b,tkE c]) K:=by
 unfold Kn;rw [RJ,RJ,TK];unfold HV Yp
 by_cases hN:N=0
 · subst hN;exact IH (by simp)
 rw [AR,AU,AR,AU]
 exact Rd.CN (K1:=fun _=>True) (Rd.exp 5) (Rd.bind (hE a h _ (by omega)) (Rd.CN (K1:=fun _=>True) (Rd.exp 5) (Rd.bind (hE b h2 _ (by omega)) (Rd.CN (K1:=fun _=>True) (Rd.exp 5) (Rd.bind (hE c h3 _ (by omega)) (Rd.CN (K1:=fun _=>True) (Rd.exp 5) (Rd.pure _) (fun _ _=>trivial)) (fun k _=>W4 k)) (fun _ _=>trivial)) (fun k _=>Vq _)) (fun _ _=>trivial)) (fun k _=>Vq _)) (fun _ _=>trivial)
theorem YY {n:Nat} (h:n≤1000000):Rd N It (n:Int) [(3,Lib.decDigits n)] K:=by
 have:=Rd.map (N:=N) (K:=K) Pb (Rd.take (hq:=by decide) (q:=3) (Lib.decDigits n))
 rw [qP h] at this
 exact this
theorem oL {E:PM Ex} (hE:HE E N) {e:Ex} (h:e.nb) (hl:lvl e=5):Rd N (Hv E) e (tkE e) (fun k=>Lh e=true→hdT k≠[40]):=by
 by_cases hN:N=0
 · subst hN;exact IH (eS h)
 obtain ⟨o,n,u,ns,ks,al⟩:=e
 obtain ⟨hnm,hnu,hns,has,hnk,hk,-⟩:=Ym h
 rw [tkE,MT,MS]
 rcases fI hnk with rfl|rfl|rfl|rfl|rfl|rfl|rfl|rfl|rfl|rfl|rfl|rfl|rfl|rfl|rfl|rfl|rfl
 · simp [nmB,nuB,nsB,asB,nkB] at hnm hnu hns has hnk
   subst hnm hnu hns has hnk
   unfold Hv
   iterate 3 refine Rd.CO (fun k _=>by simp [tkN,hdK]) ?_
   iterate 3 refine Rd.BS (fun k _=>by simp [tkN,hdT]) ?_
   refine Rd.CB 5 ?_
   unfold Yq
   exact Rd.CB 5 (Rd.pure _)
 · simp [nmB,nuB,nsB,asB,nkB] at hnm hnu hns has hnk
   subst hnm hns has hnk
   have hu:u=1∨u=0:=by omega
   unfold Hv
   rcases hu with rfl|rfl
   · iterate 3 refine Rd.CO (fun k _=>by simp [tkN,hdK]) ?_
     iterate 1 refine Rd.BS (fun k _=>by simp [tkN,hdT]) ?_
     exact Rd.CB 4 (Rd.pure _)
   · iterate 3 refine Rd.CO (fun k _=>by simp [tkN,hdK]) ?_
     iterate 2 refine Rd.BS (fun k _=>by simp [tkN,hdT]) ?_
     exact Rd.CB 4 (Rd.pure _)
 · simp [nmB,nuB,nsB,asB,nkB] at hnm hnu hns has hnk
   subst hnm hns has hnk
   show Rd N (Hv E) _ (SQ u) _
   unfold SQ Hv
   split
   · rename_i hu
     iterate 3 refine Rd.CO (fun k _=>by simp [hdK]) ?_
     have e1:u=-((u.natAbs:Nat):Int):=by omega
     refine Rd.CB 5 ?_
     have:=Rd.map (K:=fun k=>Lh (.mk 3 [] u [] [] [])=true→hdT k≠[40]) (fun n=>exN 3 (-n) []) (YY (N:=N - 1) (n:=u.natAbs) (by omega))
     rw [← e1] at this
     exact this
   · rename_i hu
     have e1:u=((u.toNat:Nat):Int):=by omega
     refine Rd.WM ?_
     have:=Rd.map (K:=fun k=>Lh (.mk 3 [] u [] [] [])=true→hdT k≠[40]) (fun n=>exN 3 n []) (YY (N:=N) (n:=u.toNat) (by omega))
     rw [← e1] at this
     exact this
 · simp [nmB,nuB,nsB,asB,nkB] at hnm hnu hns has hnk
   subst hnu hns has hnk
   unfold Hv
   refine Rd.CO (fun k _=>by simp [tkN,hdK]) ?_
   exact Rd.WM (Rd.map (fun x=>Ex.mk 4 x 0 [] [] []) (Rd.take n))
 · simp [nmB,nuB,nsB,asB,nkB] at hnm hnu hns has hnk
   subst hnm hnu hns has
   match ks,hnk,hk with
   |a::b::l,_,hk=>
    have hs:tkN 5 [] 0 [] (a::b::l) ((a::b::l).map tkE) ([].map tkA)=(5,[40])::(tkE a++((5,[44])::(cmK ((b::l).map tkE)++[(5,[41])]))):=by
     show HV (cmK (tkE a::tkE b::l.map tkE))=_
     rw [RJ,HV,AR];rfl
    rw [hs]
    unfold Hv
    iterate 3 refine Rd.CO (fun k _=>by simp [hdK]) ?_
    iterate 3 refine Rd.BS (fun k _=>by simp [hdT]) ?_
    refine Rd.CB 5 ?_
    unfold Yq
    refine Rd.BS (fun k _=>by rw [AR];exact lC (hk a (by simp)) _) ?_
    refine Rd.bind (hE a (hk a (by simp)) _ (by omega)) (Rd.BS (fun k _=>by simp [hdT]) (Rd.CN (K1:=fun _=>True) (Rd.exp 5) (Rd.map (fun l=>exN 5 0 (a::l)) (NS (Kr:=noT sEx) Vq W4 (by simp) (fun x hx M hM=>hE x (hk x (Ae _ hx)) M (by omega)))) (fun _ _=>trivial))) (fun k _=>Vq _)
 · simp [nmB,nuB,nsB,asB,nkB] at hnm hnu hns has hnk
   subst hnu hns has
   unfold Hv
   iterate 2 refine Rd.CO (fun k _=>by simp [tkN,hdK]) ?_
   refine Rd.WM (Rd.CN (K1:=fun _=>True) (Rd.take n) (Rd.map (fun l=>Ex.mk 6 n 0 [] l []) ((Ve (N:=N - 1) (Kr:=noT sEx) Vq W4 ks (fun x hx M hM=>hE x (hk x hx) M (by omega))).imp (fun k hb hks=>hb (by simp [Lh,hks])))) (fun _ _=>trivial))
 · simp [lvl] at hl
 · simp [lvl] at hl
 · simp [lvl] at hl
 · simp [lvl] at hl
 · simp [lvl] at hl
 · simp [lvl] at hl
 · exfalso
   have:EY u=5:=hl
   unfold EY at this;split at this
   · omega
   · split at this<;>omega
 · simp [nmB,nuB,nsB,asB,nkB] at hnm hnu hns has hnk
   subst hnm hns has
   have hu:u=1∨u=2∨u=3∨u=4∨u=5∨u=6∨u=7:=by omega
   unfold Hv
   rcases hu with rfl|rfl|rfl|rfl|rfl|rfl|rfl
   · obtain ⟨a,b,rfl⟩:=Re (by simpa [Hw] using hnk)
     iterate 3 refine Rd.CO (fun k _=>by simp [tkN,prT,hdK]) ?_
     iterate 6 refine Rd.BS (fun k _=>by simp [tkN,prT,hdT]) ?_
     exact Rd.CB 4 (Rd.map (fun l=>exN 14 1 l) (Vc (hE.mono (by omega)) (hk a (by simp)) (hk b (by simp))))
   · obtain ⟨a,b,rfl⟩:=Re (by simpa [Hw] using hnk)
     iterate 3 refine Rd.CO (fun k _=>by simp [tkN,prT,hdK]) ?_
     iterate 7 refine Rd.BS (fun k _=>by simp [tkN,prT,hdT]) ?_
     exact Rd.CB 4 (Rd.map (fun l=>exN 14 2 l) (Vc (hE.mono (by omega)) (hk a (by simp)) (hk b (by simp))))
   · obtain ⟨a,b,c,rfl⟩:=cJ (by simpa [Hw] using hnk)
     iterate 3 refine Rd.CO (fun k _=>by simp [tkN,prT,hdK]) ?_
     iterate 8 refine Rd.BS (fun k _=>by simp [tkN,prT,hdT]) ?_
     exact Rd.CB 4 (Rd.map (fun l=>exN 14 3 l) (j8 (hE.mono (by omega)) (hk a (by simp)) (hk b (by simp)) (hk c (by simp))))
   · obtain ⟨a,rfl⟩:=VH (by simpa [Hw] using hnk)
     iterate 3 refine Rd.CO (fun k _=>by simp [tkN,prT,hdK]) ?_
     iterate 9 refine Rd.BS (fun k _=>by simp [tkN,prT,hdT]) ?_
     exact Rd.CB 4 (Rd.map (fun l=>exN 14 4 l) (Sw (hE.mono (by omega)) (hk a (by simp))))
   · obtain ⟨a,rfl⟩:=VH (by simpa [Hw] using hnk)
     iterate 3 refine Rd.CO (fun k _=>by simp [tkN,prT,hdK]) ?_
     iterate 10 refine Rd.BS (fun k _=>by simp [tkN,prT,hdT]) ?_
     exact Rd.CB 4 (Rd.map (fun l=>exN 14 5 l) (Sw (hE.mono (by omega)) (hk a (by simp))))
   · obtain ⟨a,rfl⟩:=VH (by simpa [Hw] using hnk)
     iterate 3 refine Rd.CO (fun k _=>by simp [tkN,prT,hdK]) ?_
     iterate 11 refine Rd.BS (fun k _=>by simp [tkN,prT,hdT]) ?_
     exact Rd.CB 4 (Rd.map (fun l=>exN 14 6 l) (Sw (hE.mono (by omega)) (hk a (by simp))))
   · obtain ⟨a,b,rfl⟩:=Re (by simpa [Hw] using hnk)
     iterate 3 refine Rd.CO (fun k _=>by simp [tkN,prT,hdK]) ?_
     iterate 12 refine Rd.BS (fun k _=>by simp [tkN,prT,hdT]) ?_
     exact Rd.CB 4 (Rd.map (fun l=>exN 14 7 l) (Vc (hE.mono (by omega)) (hk a (by simp)) (hk b (by simp))))
 · simp [nmB,nuB,nsB,asB,nkB] at hnm hnu hns has hnk
   subst hnm hns has hnk
   show Rd N (Hv E) _ ((4,[116,105,99,107])::(5,[40])::(SQ u++[(5,[41])])) _
   unfold Hv
   iterate 3 refine Rd.CO (fun k _=>by simp [hdK]) ?_
   iterate 4 refine Rd.BS (fun k _=>by simp [hdT]) ?_
   refine Rd.CB 4 (Rd.CN (K1:=fun _=>True) (Rd.exp 5) (Rd.bind (K1:=fun _=>True) (a:=u) ?_ (Rd.CN (K1:=fun _=>True) (Rd.exp 5) (Rd.pure _) (fun _ _=>trivial)) (fun _ _=>trivial)) (fun _ _=>trivial))
   unfold SQ
   split
   · have e1:u=-((u.natAbs:Nat):Int):=by omega
     refine Rd.CB 5 ?_
     have:=Rd.map (K:=fun _=>True) (fun n=>-n) (YY (N:=N - 1 - 1 - 1) (n:=u.natAbs) (by omega))
     rw [← e1] at this
     exact this
   · have e1:u=((u.toNat:Nat):Int):=by omega
     refine Rd.BS (fun k _=>Mp (sD _) (by decide)) ?_
     have:=YY (N:=N - 1 - 1) (K:=fun _=>True) (n:=u.toNat) (by omega)
     rw [← e1] at this
     exact this
 · simp [nmB,nuB,nsB,asB,nkB] at hnm hnu hns has hnk
   subst hnm hnu hns has
   obtain ⟨a,rfl⟩:=VH hnk
   unfold Hv
   iterate 3 refine Rd.CO (fun k _=>by simp [tkN,hdK]) ?_
   iterate 5 refine Rd.BS (fun k _=>by simp [tkN,hdT]) ?_
   exact Rd.CB 4 (Rd.map (fun l=>exN 16 0 l) (Sw (hE.mono (by omega)) (hk a (by simp))))
 · simp [lvl] at hl
end Go.Ab
