/- Reading the tokens of a formatted text back, in plain data: types. Reading the tokens of a formatted text back, in plain data: expressions. Conditions: none. -/
import Derived.Test.YtifplkldbbcldaaGreatDoorXQi
set_option linter.unusedSimpArgs false
set_option linter.unusedVariables false
set_option maxRecDepth 4000
set_option maxHeartbeats 8000000
open Bool renaming and_eq_true→AL,eq_false_iff→Gk
open List renaming length→N8,all_eq_true→A5,append_assoc→AS,mem_cons_of_mem→Ai,map_append→BU,map_cons→AF,map_nil→AI,contains_eq_mem→Dv,mem_cons_self→Aa,length_drop→Ag,drop_drop→CH,length_append→AA,append_nil→A1,length_cons→AD,length_pos_iff→An,cons_append→AY
open Nat renaming le_refl→A7,zero_le→CS
namespace Go.Ab
variable {N:Nat} {K:List KT→Prop}
def noP (k:List KT):Prop:=hdT k≠[40]
theorem fG:∀ {d:Nat} {t:TE},Bo d t=true→∃q x l,Hy t=(q,x)::l∧x≠[41]
 |0,.mk ..,h=>by cases h
 |d+1,.mk k n l,h=>by
  rw [Bo,AL] at h
  have h1:=h.1
  rw [Hy,Se]
  rcases cB h1 with rfl|rfl|rfl|rfl|rfl|rfl|rfl|rfl|rfl
  · exact ⟨_,_,_,rfl,by decide⟩
  · exact ⟨_,_,_,rfl,by decide⟩
  · exact ⟨_,_,_,rfl,by decide⟩
  · simp [Ct] at h1;exact ⟨_,_,_,rfl,Nn (V9 h1.1) (by decide)⟩
  · simp [Ct] at h1;exact ⟨_,_,_,rfl,Nn (lF h1.1) (by decide)⟩
  · simp [Ct] at h1
    cases l with
    |nil=>simp at h1
    |cons a l=>exact ⟨_,_,_,rfl,by decide⟩
  · exact ⟨_,_,_,rfl,by decide⟩
  · exact ⟨_,_,_,rfl,by decide⟩
  · exact ⟨_,_,_,rfl,by decide⟩
theorem gW {q:Int} {x:Str} {l:List KT} {ks:List KT} (h:ks=(q,x)::l) (k:List KT):hdT (ks++k)=x∧hdK (ks++k)=q:=by
 subst h;exact ⟨rfl,rfl⟩
theorem US {α:Type} {m:PM α} {a:α} {q:Int} {x:Str} {l ks:List KT} (h:ks=(q,x)::l):Rd 0 m a ks K:=fun r p k h1 _ hs _=>by
 have:=congrArg N8 hs
 rw [KS,h] at this
 simp at this;omega
theorem Im {α:Type} {m:PM α} {a:α} {ks:List KT} (h:ks≠[]):Rd 0 m a ks K:=by
 cases ks with
 |nil=>exact absurd rfl h
 |cons x l=>exact US (q:=x.1) (x:=x.2) (l:=l) rfl
theorem S3 (x y:List KT) (l:List (List KT)):cmK (x::y::l)=x++((5,[44])::cmK (y::l)):=by
 unfold cmK;rw [bF];rfl
theorem U6 (x:List KT):cmK [x]=x:=kG _ x
theorem oU:∀(d:Nat) (t:TE),Bo d t=true→∀n N,N≤n→Rd N (Fl n) t (Hy t) noP
 |0,.mk ..,h,_,_,_=>by cases h
 |d+1,.mk k nm l,h,0,N,hN=>by
  obtain ⟨q,x,r,e,_⟩:=fG h
  have:N=0:=by omega
  subst this
  exact US e
 |d+1,.mk k nm l,h,n+1,N,hN=>by
  rw [Bo,AL,A5] at h
  obtain ⟨h1,h2⟩:=h
  have ih:=fun x (hx:x∈l) M (hM:M+1≤N)=>oU d x (h2 x hx) n M (by omega)
  have h5:∀k:List KT,noP ((5,[44])::k):=fun k=>by simp [noP,hdT]
  have h6:∀k:List KT,noP ((5,[41])::k):=fun k=>by simp [noP,hdT]
  rw [Fl,Hy,Se]
  rcases cB h1 with rfl|rfl|rfl|rfl|rfl|rfl|rfl|rfl|rfl
  · simp [Ct] at h1
    obtain ⟨rfl,rfl⟩:=h1
    exact Rd.C7 (fun k _=>by simp [NK,hdK]) (Rd.C7 (fun k _=>by simp [NK,hdK]) (Rd.CQ 4 (Rd.pure _)))
  · simp [Ct] at h1
    obtain ⟨rfl,rfl⟩:=h1
    exact Rd.C7 (fun k _=>by simp [NK,hdK]) (Rd.C7 (fun k _=>by simp [NK,hdK]) (Rd.BZ (fun k _=>by simp [NK,hdT]) (Rd.CQ 4 (Rd.pure _))))
  · simp [Ct] at h1
    obtain ⟨rfl,rfl⟩:=h1
    exact Rd.C7 (fun k _=>by simp [NK,hdK]) (Rd.C7 (fun k _=>by simp [NK,hdK]) (Rd.BZ (fun k _=>by simp [NK,hdT]) (Rd.BZ (fun k _=>by simp [NK,hdT]) (Rd.CQ 4 (Rd.pure _)))))
  · simp [Ct] at h1
    obtain ⟨h1,rfl⟩:=h1
    exact Rd.Xw (Rd.map (fun x=>TE.mk 4 x []) (Rd.take nm))
  · exact Rd.C7 (fun k _=>by simp [NK,hdK]) (Rd.Xw (Rd.C3 (K1:=fun _=>True) (Rd.take nm) (Rd.map (fun l=>TE.mk 5 nm l) ((XK (N:=N - 1) h5 h6 l (fun x hx M hM=>ih x hx M (by omega))).imp (fun k hk _=>hk))) (fun _ _=>trivial)))
  · simp [Ct] at h1
    match l,h1,h2,ih with
    |a::b::l,h1,h2,ih=>
     have hs:NK 6 nm ((a::b::l).map Hy)=(5,[40])::(Hy a++((5,[44])::(cmK ((b::l).map Hy)++[(5,[41])]))):=by
      show Hu (cmK (Hy a::Hy b::l.map Hy))=_
      rw [S3,Hu,AS];rfl
     rw [hs,h1.1.1]
     refine Rd.C7 (fun k _=>by simp [hdK]) (Rd.C7 (fun k _=>by simp [hdK]) (Rd.BZ (fun k _=>by simp [hdT]) (Rd.BZ (fun k _=>by simp [hdT]) (Rd.BZ (fun k _=>by simp [hdT]) (Rd.BZ (fun k _=>by simp [hdT]) (Rd.BZ (fun k _=>by simp [hdT]) (Rd.CQ 5 ?_)))))))
     by_cases hN0:N=0
     · subst hN0
       obtain ⟨q,x,r,e,_⟩:=fG (h2 a (by simp))
       refine US (q:=q) (x:=x) (l:=r++((5,[44])::(cmK ((b::l).map Hy)++[(5,[41])]))) ?_
       rw [e];rfl
     · exact Rd.bind (ih a (by simp) (N - 1) (by omega)) (Rd.C3 (K1:=fun _=>True) (Rd.exp 5) (Rd.map (fun l=>TE.mk 6 [] (a::l)) (OR h5 h6 (by simp) (fun x hx M hM=>ih x (Ai _ hx) M (by omega)))) (fun _ _=>trivial)) (fun k _=>h5 _)
  · simp [Ct] at h1
    obtain ⟨rfl,hl⟩:=h1
    obtain ⟨a,rfl⟩:=W9 hl
    have hs:NK 7 [] ([a].map Hy)=(4,[97,114,114,97,121])::(5,[40])::(Hy a++[(5,[41])]):=by
     show (4,[97,114,114,97,121])::Hu (cmK [Hy a])=_
     rw [U6];rfl
    rw [hs]
    refine Rd.C7 (fun k _=>by simp [hdK]) (Rd.C7 (fun k _=>by simp [hdK]) (Rd.BZ (fun k _=>by simp [hdT]) (Rd.BZ (fun k _=>by simp [hdT]) (Rd.BZ (fun k _=>by simp [hdT]) (Rd.CQ 4 (Rd.C3 (K1:=fun _=>True) (Rd.exp 5) ?_ (fun _ _=>trivial)))))))
    by_cases hN0:N=0
    · subst hN0
      obtain ⟨q,x,r,e,_⟩:=fG (h2 a (by simp))
      exact US (by rw [e];rfl)
    · exact Rd.bind (ih a (by simp) (N - 1 - 1) (by omega)) (Rd.C3 (K1:=fun _=>True) (Rd.exp 5) (Rd.pure _) (fun _ _=>trivial)) (fun k _=>h6 _)
  · simp [Ct] at h1
    obtain ⟨rfl,hl⟩:=h1
    obtain ⟨a,rfl⟩:=W9 hl
    have hs:NK 8 [] ([a].map Hy)=(4,[114,101,102])::(5,[40])::(Hy a++[(5,[41])]):=by
     show (4,[114,101,102])::Hu (cmK [Hy a])=_
     rw [U6];rfl
    rw [hs]
    refine Rd.C7 (fun k _=>by simp [hdK]) (Rd.C7 (fun k _=>by simp [hdK]) (Rd.BZ (fun k _=>by simp [hdT]) (Rd.BZ (fun k _=>by simp [hdT]) (Rd.BZ (fun k _=>by simp [hdT]) (Rd.BZ (fun k _=>by simp [hdT]) (Rd.CQ 4 (Rd.C3 (K1:=fun _=>True) (Rd.exp 5) ?_ (fun _ _=>trivial))))))))
    by_cases hN0:N=0
    · subst hN0
      obtain ⟨q,x,r,e,_⟩:=fG (h2 a (by simp))
      exact US (by rw [e];rfl)
    · exact Rd.bind (ih a (by simp) (N - 1 - 1) (by omega)) (Rd.C3 (K1:=fun _=>True) (Rd.exp 5) (Rd.pure _) (fun _ _=>trivial)) (fun k _=>h6 _)
  · simp [Ct] at h1
    obtain ⟨⟨rfl,hl⟩,_⟩:=h1
    obtain ⟨m,x,rfl⟩:=UA hl
    have hs:NK 9 [] ((m++[x]).map Hy)=(4,[102,110])::(5,[40])::((cmK (m.map Hy)++[(5,[41])])++((5,[45,62])::Hy x)):=by
     show (4,[102,110])::(L7 ((m++[x]).map Hy).dropLast++((5,[45,62])::((m++[x]).map Hy).getLastD []))=_
     simp only [BU,AF,AI,List.dropLast_concat,List.getLastD_concat]
     rfl
    rw [hs]
    refine Rd.C7 (fun k _=>by simp [hdK]) (Rd.C7 (fun k _=>by simp [hdK]) (Rd.BZ (fun k _=>by simp [hdT]) (Rd.BZ (fun k _=>by simp [hdT]) (Rd.BZ (fun k _=>by simp [hdT]) (Rd.BZ (fun k _=>by simp [hdT]) (Rd.BZ (fun k _=>by simp [hdT]) (Rd.BZ (fun k _=>by simp [hdT]) (Rd.CQ 4 (Rd.C3 (K1:=fun _=>True) (Rd.exp 5) ?_ (fun _ _=>trivial))))))))))
    by_cases hN0:N=0
    · subst hN0
      exact Im (by simp)
    · refine Rd.bind (K1:=fun _=>True) (aP h5 h6 m (fun y hy M hM=>ih y (List.mem_append_left _ hy) M (by omega)) (fun y hy k=>?_)) (Rd.C3 (K1:=fun _=>True) (Rd.exp 5) (Rd.map (fun t=>TE.mk 9 [] (m++[t])) (ih x (by simp) _ (by omega))) (fun _ _=>trivial)) (fun _ _=>trivial)
      obtain ⟨q,z,r,e,hz⟩:=fG (h2 y (List.mem_append_left _ hy))
      rw [(gW e k).1];exact hz
theorem xN {c:CE} (h:Q9 c=true) (hN:N≤BC):Rd N bT c (tkC c) noP:=by
 simp only [Q9,AL,A5] at h
 refine Rd.C3 (K1:=fun _=>True) (Rd.take c.name) (Rd.map (fun l=>CE.mk c.name l) ((XK (Kr:=noP) (fun k=>by simp [noP,hdT]) (fun k=>by simp [noP,hdT]) c.args (fun x hx M hM=>oU 40 x (h.2 x hx) BC M (by omega))).imp (fun k hk _=>hk))) (fun _ _=>trivial)
theorem tI {d:DE} (h:GP d=true) (hN:N≤BC):Rd N JS d ((2,d.name)::(Ut (d.vars.map fun s=>[(1,s)])++((5,[61])::([((5:Int),[124])].intercalate (d.cons.map tkC)++[(5,[59])])))) K:=by
 simp only [GP,AL,A5,decide_eq_true_eq] at h
 obtain ⟨⟨⟨⟨⟨h1,h2⟩,h3⟩,h4⟩,h5⟩,h6⟩:=h
 have hne:d.cons≠[]:=by intro e;rw [e] at h4;simp at h4
 refine Rd.C3 (K1:=fun _=>True) (Rd.take d.name) (Rd.bind (XK (Kr:=fun _=>True) (g:=fun s=>[(1,s)]) (fun _=>trivial) (fun _=>trivial) d.vars (fun s hs M _=>Rd.take s)) (Rd.C3 (K1:=fun _=>True) (Rd.exp 5) (Rd.bind (XJ (g:=tkC) (Kr:=noP) (fun k=>by simp [noP,hdT]) hne (fun c hc M hM=>xN (h6 c hc) (by omega))) (Rd.C3 (K1:=fun _=>True) (Rd.exp 5) (Rd.pure _) (fun _ _=>trivial)) (fun k _=>⟨by simp [noP,hdT],by simp [hdT]⟩)) (fun _ _=>trivial)) (fun k _ _=>by simp [hdT])) (fun _ _=>trivial)
end Go.Ab
namespace Go.Ab
variable {N:Nat} {K:List KT→Prop}
def opens:List Str:=[[108,101,116],[105,102],[109,97,116,99,104],[102,110],[116,114,121]]
def Fb (ks:List KT) (b:Prop):Prop:=∃q x l,ks=(q,x)::l∧x≠[41]∧(b→opens.contains x=false)
theorem ABX {x:Str} {l:List Str} (h:Nl x=false) (hl:l.all Nl=true):l.contains x=false:=by
 rw [Gk]
 intro hc
 have hm:x∈l:=by simpa [Dv] using hc
 have:=A5.1 hl x hm
 rw [h] at this;cases this
theorem xH (n:Nat):Nl (Lib.decDigits n)=false:=by
 rw [Gk]
 intro hw
 obtain ⟨b,l,e,_,h,_⟩:=Sg hw
 have:=gP n b (by rw [e];exact Aa ..)
 simp only [Bf] at this
 rw [h] at this;cases this
theorem Fb.par {t:List KT} {b:Prop}:Fb (Hu t) b:=⟨_,_,_,rfl,by decide,fun _=>by decide⟩
theorem Fb.app {t k:List KT} {b:Prop} (h:Fb t b):Fb (t++k) b:=by
 obtain ⟨q,x,l,rfl,h1,h2⟩:=h
 exact ⟨q,x,l++k,rfl,h1,h2⟩
theorem Fb.c {q:Int} {x:Str} {l:List KT} {b:Prop} (h1:x≠[41]) (h2:b→opens.contains x=false):Fb ((q,x)::l) b:=⟨q,x,l,rfl,h1,h2⟩
theorem Fb.w {q:Int} {x:Str} {l:List KT} {b:Prop} (h:Nl x=false):Fb ((q,x)::l) b:=⟨q,x,l,rfl,Nn h (by decide),fun _=>ABX h (by decide)⟩
theorem Fb.plK {d:Nat} {e:Ex} {t:List KT} (hd:1≤d) (h:Fb t (1≤lvl e)) {b:Prop}:Fb (plK d e t) b:=by
 unfold Ab.plK
 split
 · exact Fb.par
 · rename_i hl
   obtain ⟨q,x,l,e1,h1,h2⟩:=h
   exact ⟨q,x,l,e1,h1,fun _=>h2 (by omega)⟩
theorem eC (u:Int):1≤Ee u:=by
 unfold Ee;split
 · omega
 · split<;>omega
theorem xC:∀(s:Nat) (e:Ex),e.size≤s→e.nb→Fb (tkE e) (1≤lvl e)
 |0,e,hs,_=>by have:=e.size_pos;omega
 |s+1,.mk o n u ns ks al,hs,h=>by
  rw [Ex.nb,Ex.Ng] at h
  obtain ⟨hn,hk,_⟩:=h
  have ih:∀x∈ks,Fb (tkE x) (1≤lvl x):=fun x hx=>xC s x (by have:=Ex.Rx hx;simp only [Ex.size] at hs;omega) (hk x hx)
  simp only [GS,AL] at hn
  obtain ⟨⟨⟨⟨hnm,hnu⟩,hns⟩,has⟩,hnk⟩:=hn
  rw [tkE,NJ,NI]
  rcases kU hnk with rfl|rfl|rfl|rfl|rfl|rfl|rfl|rfl|rfl|rfl|rfl|rfl|rfl|rfl|rfl|rfl|rfl
  · exact Fb.c (by decide) (fun _=>by decide)
  · show Fb (if u=1 then [(4,[116,114,117,101])] else [(4,[102,97,108,115,101])]) _
    split
    · exact Fb.c (by decide) (fun _=>by decide)
    · exact Fb.c (by decide) (fun _=>by decide)
  · show Fb (Td u) _
    unfold Td
    split
    · exact Fb.c (by decide) (fun _=>by decide)
    · exact Fb.w (xH _)
  · exact Fb.w (V9 (by simpa [nmB] using hnm))
  · exact Fb.par
  · exact Fb.w (lF (by simpa [nmB] using hnm))
  · exact Fb.c (by decide) (fun hl=>by simp [lvl] at hl)
  · exact Fb.c (by decide) (fun hl=>by simp [lvl] at hl)
  · exact Fb.c (by decide) (fun hl=>by simp [lvl] at hl)
  · exact Fb.c (by decide) (fun hl=>by simp [lvl] at hl)
  · exact Fb.c (by decide) (fun hl=>by simp [lvl] at hl)
  · cases ks with
    |nil=>simp [nkB] at hnk
    |cons f l=>
     show Fb ((if M3 f then Hu (tkE f) else plK 4 f (tkE f))++L7 (l.map tkE)) _
     refine Fb.app ?_
     split
     · exact Fb.par
     · exact Fb.plK (by omega) (ih f (by simp))
  · obtain ⟨a,b,rfl⟩:=Sx (by simpa [nkB] using hnk)
    exact (Fb.plK (by have:=eC u;split<;>omega) (ih a (by simp))).app
  · show Fb ((4,prT u)::L7 (ks.map tkE)) _
    unfold prT
    repeat' split
    all_goals exact Fb.c (by decide) (fun _=>by decide)
  · exact Fb.c (by decide) (fun _=>by decide)
  · exact Fb.c (by decide) (fun _=>by decide)
  · exact Fb.c (by decide) (fun hl=>by simp [lvl] at hl)
theorem yO {e:Ex} (h:e.nb):Fb (tkE e) (1≤lvl e):=xC e.size e (A7 _) h
theorem pW {e:Ex} (h:e.nb) (k:List KT):hdT (tkE e++k)≠[41]:=by
 obtain ⟨q,x,l,e1,h1,_⟩:=yO h
 rw [(gW e1 k).1];exact h1
theorem kC {e:Ex} (h:e.nb):tkE e≠[]:=by
 obtain ⟨q,x,l,e1,_⟩:=yO h
 rw [e1];simp
def Gs (N:Nat) (m m':PM Ex) (ks:List KT) (K:List KT→Prop):Prop:=
 ∀r p k,r.length≤N→r.length≤17000→strip r=ks++k→K k→m.run ⟨r,false,p⟩=m'.run ⟨r.drop ks.length,false,p⟩
theorem Gs.refl (m:PM Ex):Gs N m m [] K:=fun _ _ _ _ _ _ _=>rfl
theorem Gs.bind {α:Type} {m:PM α} {f:α→PM Ex} {m':PM Ex} {a:α} {k1 k2:List KT} {K1:List KT→Prop} (h1:Rd N m a k1 K1) (h2:Gs (N - k1.length) (f a) m' k2 K) (hK:∀k,K k→K1 (k2++k)):Gs N (m.bind f) m' (k1++k2) K:=fun r p k hN hL hs hk=>by
 rw [AS] at hs
 have e1:=h1 r p (k2++k) hN hL hs (hK k hk)
 have e2:=h2 (r.drop k1.length) p k (by rw [Ag];omega) (by rw [Ag];omega) (KR hs) hk
 show (f (m.run ⟨r,false,p⟩).1).run (m.run ⟨r,false,p⟩).2=_
 rw [e1]
 show (f a).run ⟨r.drop k1.length,false,p⟩=_
 rw [e2,CH,AA]
theorem Gs.last {α:Type} {m:PM α} {f:α→PM Ex} {a:α} {k1:List KT} (h1:Rd N m a k1 K):Gs N (m.bind f) (f a) k1 K:=by
 have:=Gs.bind (m':=f a) (K:=K) h1 (Gs.refl (f a)) (fun k h=>h)
 rwa [A1] at this
theorem Gs.CQ {t:Str} {ht:t≠[]} {y n m':PM Ex} {ks:List KT} (q:Int) (h:Gs (N - 1) y m' ks K):Gs N (.acc t ht y n) m' ((q,t)::ks) K:=fun r p k hN hL hs hk=>by
 have hh:=(G2 hs).1
 rw [rN (by rw [hh];simp [hdT])]
 have e:=h r.tail p k (by rw [List.length_tail];omega) (by rw [List.length_tail];omega) (by have:=KR (ks:=[(q,t)]) hs;simpa using this) hk
 rw [e,AD,← List.drop_one,CH,Nat.add_comm]
theorem Gs.BZ {t:Str} {ht:t≠[]} {y n m':PM Ex} {ks:List KT} (hn:∀k,K k→hdT (ks++k)≠t) (h:Gs N n m' ks K):Gs N (.acc t ht y n) m' ks K:=fun r p k hN hL hs hk=>by
 have hh:=(G2 hs).1
 rw [SB (by rw [hh];simpa using hn k hk)]
 exact h r p k hN hL hs hk
theorem Ac.of {m:PM Ex} {c:Nat→Ex→PM Ex} {e:Ex} {ks:List KT} (h:Rd N m e ks K):Ac N (m.bind fun a=>c BC a) c e ks K:=⟨0,CS _,Gs.last (f:=fun a=>c BC a) h⟩
theorem Ac.step {m:PM Ex} {c:Nat→Ex→PM Ex} {a e:Ex} {k1 k2:List KT} {K1:List KT→Prop} (h1:Ac N m c a k1 K1) (h2:∀n,Gs (N - k1.length) (c (n+1) a) (c n e) k2 K) (hk2:k2≠[]) (hK:∀k,K k→K1 (k2++k)):Ac N m c e (k1++k2) K:=by
 obtain ⟨j,hj,h1⟩:=h1
 have hl2:1≤k2.length:=An.2 hk2
 refine ⟨j+1,by rw [AA];omega,fun r p k hN hL hs hk=>?_⟩
 have hsl:=congrArg N8 hs
 rw [KS,AA,AA] at hsl
 rw [AS] at hs
 have e1:=h1 r p (k2++k) hN hL hs (hK k hk)
 have hf:=FL
 have e2:=h2 (BC - (j+1)) (r.drop k1.length) p k (by rw [Ag];omega) (by rw [Ag];omega) (KR hs) hk
 rw [e1,show BC - j=BC - (j+1)+1 by omega,e2,CH,AA]
theorem Ac.fin {m:PM Ex} {c:Nat→Ex→PM Ex} {e:Ex} {ks:List KT} {K':List KT→Prop} (h:Ac N m c e ks K) (hK:∀k,K' k→K k) (hc:∀n r p,K' (strip r)→(c n e).run ⟨r,false,p⟩=(e,⟨r,false,p⟩)):Rd N m e ks K':=by
 obtain ⟨j,_,h⟩:=h
 intro r p k hN hL hs hk
 rw [h r p k hN hL hs (hK k hk)]
 exact hc _ _ _ (by rw [KR hs];exact hk)
theorem Ac.imp {m:PM Ex} {c:Nat→Ex→PM Ex} {e:Ex} {ks:List KT} {K':List KT→Prop} (h:Ac N m c e ks K) (hK:∀k,K' k→K k):Ac N m c e ks K':=by
 obtain ⟨j,hj,h⟩:=h
 exact ⟨j,hj,fun r p k hN hL hs hk=>h r p k hN hL hs (hK k hk)⟩
theorem OB {l:List Str} {k:List KT} (h:noT l k) {t:Str} (ht:l.contains t=true):hdT k≠t:=fun e=>by
 unfold noT at h;rw [e,ht] at h;cases h
theorem O3 (r:List Tok):(r.headD UK).text=hdT (strip r):=(G2 rfl).1
theorem Z8 {E:PM Ex}:∀n e r p,hdT (strip r)≠[40]→(Ti E n e).run ⟨r,false,p⟩=(e,⟨r,false,p⟩)
 |0,e,r,p,_=>rfl
 |n+1,e,r,p,h=>by
  rw [Ti,SB (by rw [O3];simpa using h)];rfl
def sPr:List Str:=[[40],[42],[47],[37]]
def sSu:List Str:=[[40],[42],[47],[37],[43],[45]]
def sEx:List Str:=[[40],[42],[47],[37],[43],[45],[60],[60,61],[61,61]]
theorem Ur {l m:List Str} (hs:m.all (fun t=>l.contains t)=true) {k:List KT} (h:noT l k):noT m k:=by
 unfold noT at h ⊢
 rw [Gk] at h ⊢
 intro hc
 have hm:hdT k∈m:=by simpa [Dv] using hc
 exact h (A5.1 hs _ hm)
theorem YH {E:PM Ex}:∀n e r p,noT sPr (strip r)→(Jv E n e).run ⟨r,false,p⟩=(e,⟨r,false,p⟩)
 |0,e,r,p,_=>rfl
 |n+1,e,r,p,h=>by
  rw [Jv,SB (by rw [O3];simpa using OB h (t:=[42]) (by decide)),SB (by rw [O3];simpa using OB h (t:=[47]) (by decide)),SB (by rw [O3];simpa using OB h (t:=[37]) (by decide))];rfl
theorem oI {E:PM Ex}:∀n e r p,noT sSu (strip r)→(TH E n e).run ⟨r,false,p⟩=(e,⟨r,false,p⟩)
 |0,e,r,p,_=>rfl
 |n+1,e,r,p,h=>by
  rw [TH,SB (by rw [O3];simpa using OB h (t:=[43]) (by decide)),SB (by rw [O3];simpa using OB h (t:=[45]) (by decide))];rfl
def HE (E:PM Ex) (N:Nat):Prop:=∀x:Ex,x.nb→∀M,M+1≤N→Rd M E x (tkE x) (noT sEx)
theorem HE.mono {E:PM Ex} {M:Nat} (h:HE E N) (hM:M≤N):HE E M:=fun x hx M' h'=>h x hx M' (by omega)
theorem YN (k:List KT):noT sEx ((5,[41])::k):=by show sEx.contains [41]=false;decide
theorem X8 (k:List KT):noT sEx ((5,[44])::k):=by show sEx.contains [44]=false;decide
theorem XL {E:PM Ex} (hE:HE E N) {e:Ex} (h:e.nb):Rd N (I6 E) e (Hu (tkE e)) K:=by
 by_cases hN:N=0
 · subst hN;exact Im (by simp [Hu])
 unfold Hu I6
 iterate 3 refine Rd.C7 (fun k _=>by simp [hdK]) ?_
 iterate 3 refine Rd.BZ (fun k _=>by simp [hdT]) ?_
 refine Rd.CQ 5 ?_
 unfold bU
 refine Rd.BZ (fun k _=>by rw [AS];exact pW h _) ?_
 exact Rd.bind (hE e h (N - 1) (by omega)) (Rd.CQ 5 (Rd.pure e)) (fun k _=>YN k)
theorem bP {o u:Int} {n:Str} {ns:List Str} {ks:List Ex} {al:List Al} (h:(Ex.mk o n u ns ks al).nb):nmB o n=true∧nuB o u=true∧nsB o ns=true∧asB o al=true∧nkB o u ks.length=true∧(∀x∈ks,x.nb)∧∀a∈al,a.nb:=by
 rw [Ex.nb,Ex.Ng,Al.Ng] at h
 obtain ⟨hn,hk,ha⟩:=h
 simp only [GS,AL] at hn
 obtain ⟨⟨⟨⟨hnm,hnu⟩,hns⟩,has⟩,hnk⟩:=hn
 exact ⟨hnm,hnu,hns,has,hnk,hk,ha⟩
theorem UR {E:PM Ex} (hE:HE E N) {a:Ex} (h:a.nb):Rd N (OD E) [a] (L7 [tkE a]) K:=by
 unfold L7;rw [U6];unfold Hu OD
 by_cases hN:N=0
 · subst hN;exact Im (by simp)
 exact Rd.C3 (K1:=fun _=>True) (Rd.exp 5) (Rd.bind (hE a h _ (by omega)) (Rd.C3 (K1:=fun _=>True) (Rd.exp 5) (Rd.pure _) (fun _ _=>trivial)) (fun k _=>YN k)) (fun _ _=>trivial)
theorem XI {E:PM Ex} (hE:HE E N) {a b:Ex} (h:a.nb) (h2:b.nb):Rd N (Rz E) [a,b] (L7 [tkE a,tkE b]) K:=by
 unfold L7;rw [S3,U6];unfold Hu Rz
 by_cases hN:N=0
 · subst hN;exact Im (by simp)
 rw [AS,AY]
 exact Rd.C3 (K1:=fun _=>True) (Rd.exp 5) (Rd.bind (hE a h _ (by omega)) (Rd.C3 (K1:=fun _=>True) (Rd.exp 5) (Rd.bind (hE b h2 _ (by omega)) (Rd.C3 (K1:=fun _=>True) (Rd.exp 5) (Rd.pure _) (fun _ _=>trivial)) (fun k _=>YN k)) (fun _ _=>trivial)) (fun k _=>X8 _)) (fun _ _=>trivial)
theorem oT {E:PM Ex} (hE:HE E N) {a b c:Ex} (h:a.nb) (h2:b.nb) (h3:c.nb):Rd N (bS E) [a,b,c] (L7 [tkE a,tkE b,tkE c]) K:=by
 unfold L7;rw [S3,S3,U6];unfold Hu bS
 by_cases hN:N=0
 · subst hN;exact Im (by simp)
 rw [AS,AY,AS,AY]
 exact Rd.C3 (K1:=fun _=>True) (Rd.exp 5) (Rd.bind (hE a h _ (by omega)) (Rd.C3 (K1:=fun _=>True) (Rd.exp 5) (Rd.bind (hE b h2 _ (by omega)) (Rd.C3 (K1:=fun _=>True) (Rd.exp 5) (Rd.bind (hE c h3 _ (by omega)) (Rd.C3 (K1:=fun _=>True) (Rd.exp 5) (Rd.pure _) (fun _ _=>trivial)) (fun k _=>YN k)) (fun _ _=>trivial)) (fun k _=>X8 _)) (fun _ _=>trivial)) (fun k _=>X8 _)) (fun _ _=>trivial)
theorem aQ {n:Nat} (h:n≤1000000):Rd N J4 (n:Int) [(3,Lib.decDigits n)] K:=by
 have:=Rd.map (N:=N) (K:=K) Qn (Rd.take (hq:=by decide) (q:=3) (Lib.decDigits n))
 rw [vQ h] at this
 exact this
theorem tJ {E:PM Ex} (hE:HE E N) {e:Ex} (h:e.nb) (hl:lvl e=5):Rd N (I6 E) e (tkE e) (fun k=>M3 e=true→hdT k≠[40]):=by
 by_cases hN:N=0
 · subst hN;exact Im (kC h)
 obtain ⟨o,n,u,ns,ks,al⟩:=e
 obtain ⟨hnm,hnu,hns,has,hnk,hk,-⟩:=bP h
 rw [tkE,NJ,NI]
 rcases kU hnk with rfl|rfl|rfl|rfl|rfl|rfl|rfl|rfl|rfl|rfl|rfl|rfl|rfl|rfl|rfl|rfl|rfl
 · simp [nmB,nuB,nsB,asB,nkB] at hnm hnu hns has hnk
   subst hnm hnu hns has hnk
   unfold I6
   iterate 3 refine Rd.C7 (fun k _=>by simp [tkN,hdK]) ?_
   iterate 3 refine Rd.BZ (fun k _=>by simp [tkN,hdT]) ?_
   refine Rd.CQ 5 ?_
   unfold bU
   exact Rd.CQ 5 (Rd.pure _)
 · simp [nmB,nuB,nsB,asB,nkB] at hnm hnu hns has hnk
   subst hnm hns has hnk
   have hu:u=1∨u=0:=by omega
   unfold I6
   rcases hu with rfl|rfl
   · iterate 3 refine Rd.C7 (fun k _=>by simp [tkN,hdK]) ?_
     iterate 1 refine Rd.BZ (fun k _=>by simp [tkN,hdT]) ?_
     exact Rd.CQ 4 (Rd.pure _)
   · iterate 3 refine Rd.C7 (fun k _=>by simp [tkN,hdK]) ?_
     iterate 2 refine Rd.BZ (fun k _=>by simp [tkN,hdT]) ?_
     exact Rd.CQ 4 (Rd.pure _)
 · simp [nmB,nuB,nsB,asB,nkB] at hnm hnu hns has hnk
   subst hnm hns has hnk
   show Rd N (I6 E) _ (Td u) _
   unfold Td I6
   split
   · rename_i hu
     iterate 3 refine Rd.C7 (fun k _=>by simp [hdK]) ?_
     have e1:u=-((u.natAbs:Nat):Int):=by omega
     refine Rd.CQ 5 ?_
     have:=Rd.map (K:=fun k=>M3 (.mk 3 [] u [] [] [])=true→hdT k≠[40]) (fun n=>exN 3 (-n) []) (aQ (N:=N - 1) (n:=u.natAbs) (by omega))
     rw [← e1] at this
     exact this
   · rename_i hu
     have e1:u=((u.toNat:Nat):Int):=by omega
     refine Rd.Xw ?_
     have:=Rd.map (K:=fun k=>M3 (.mk 3 [] u [] [] [])=true→hdT k≠[40]) (fun n=>exN 3 n []) (aQ (N:=N) (n:=u.toNat) (by omega))
     rw [← e1] at this
     exact this
 · simp [nmB,nuB,nsB,asB,nkB] at hnm hnu hns has hnk
   subst hnu hns has hnk
   unfold I6
   refine Rd.C7 (fun k _=>by simp [tkN,hdK]) ?_
   exact Rd.Xw (Rd.map (fun x=>Ex.mk 4 x 0 [] [] []) (Rd.take n))
 · simp [nmB,nuB,nsB,asB,nkB] at hnm hnu hns has hnk
   subst hnm hnu hns has
   match ks,hnk,hk with
   |a::b::l,_,hk=>
    have hs:tkN 5 [] 0 [] (a::b::l) ((a::b::l).map tkE) ([].map tkA)=(5,[40])::(tkE a++((5,[44])::(cmK ((b::l).map tkE)++[(5,[41])]))):=by
     show Hu (cmK (tkE a::tkE b::l.map tkE))=_
     rw [S3,Hu,AS];rfl
    rw [hs]
    unfold I6
    iterate 3 refine Rd.C7 (fun k _=>by simp [hdK]) ?_
    iterate 3 refine Rd.BZ (fun k _=>by simp [hdT]) ?_
    refine Rd.CQ 5 ?_
    unfold bU
    refine Rd.BZ (fun k _=>by rw [AS];exact pW (hk a (by simp)) _) ?_
    refine Rd.bind (hE a (hk a (by simp)) _ (by omega)) (Rd.BZ (fun k _=>by simp [hdT]) (Rd.C3 (K1:=fun _=>True) (Rd.exp 5) (Rd.map (fun l=>exN 5 0 (a::l)) (OR (Kr:=noT sEx) X8 YN (by simp) (fun x hx M hM=>hE x (hk x (Ai _ hx)) M (by omega)))) (fun _ _=>trivial))) (fun k _=>X8 _)
 · simp [nmB,nuB,nsB,asB,nkB] at hnm hnu hns has hnk
   subst hnu hns has
   unfold I6
   iterate 2 refine Rd.C7 (fun k _=>by simp [tkN,hdK]) ?_
   refine Rd.Xw (Rd.C3 (K1:=fun _=>True) (Rd.take n) (Rd.map (fun l=>Ex.mk 6 n 0 [] l []) ((XK (N:=N - 1) (Kr:=noT sEx) X8 YN ks (fun x hx M hM=>hE x (hk x hx) M (by omega))).imp (fun k hb hks=>hb (by simp [M3,hks])))) (fun _ _=>trivial))
 · simp [lvl] at hl
 · simp [lvl] at hl
 · simp [lvl] at hl
 · simp [lvl] at hl
 · simp [lvl] at hl
 · simp [lvl] at hl
 · exfalso
   have:Ee u=5:=hl
   unfold Ee at this;split at this
   · omega
   · split at this<;>omega
 · simp [nmB,nuB,nsB,asB,nkB] at hnm hnu hns has hnk
   subst hnm hns has
   have hu:u=1∨u=2∨u=3∨u=4∨u=5∨u=6∨u=7:=by omega
   unfold I6
   rcases hu with rfl|rfl|rfl|rfl|rfl|rfl|rfl
   · obtain ⟨a,b,rfl⟩:=Sx (by simpa [H7] using hnk)
     iterate 3 refine Rd.C7 (fun k _=>by simp [tkN,prT,hdK]) ?_
     iterate 6 refine Rd.BZ (fun k _=>by simp [tkN,prT,hdT]) ?_
     exact Rd.CQ 4 (Rd.map (fun l=>exN 14 1 l) (XI (hE.mono (by omega)) (hk a (by simp)) (hk b (by simp))))
   · obtain ⟨a,b,rfl⟩:=Sx (by simpa [H7] using hnk)
     iterate 3 refine Rd.C7 (fun k _=>by simp [tkN,prT,hdK]) ?_
     iterate 7 refine Rd.BZ (fun k _=>by simp [tkN,prT,hdT]) ?_
     exact Rd.CQ 4 (Rd.map (fun l=>exN 14 2 l) (XI (hE.mono (by omega)) (hk a (by simp)) (hk b (by simp))))
   · obtain ⟨a,b,c,rfl⟩:=iD (by simpa [H7] using hnk)
     iterate 3 refine Rd.C7 (fun k _=>by simp [tkN,prT,hdK]) ?_
     iterate 8 refine Rd.BZ (fun k _=>by simp [tkN,prT,hdT]) ?_
     exact Rd.CQ 4 (Rd.map (fun l=>exN 14 3 l) (oT (hE.mono (by omega)) (hk a (by simp)) (hk b (by simp)) (hk c (by simp))))
   · obtain ⟨a,rfl⟩:=W9 (by simpa [H7] using hnk)
     iterate 3 refine Rd.C7 (fun k _=>by simp [tkN,prT,hdK]) ?_
     iterate 9 refine Rd.BZ (fun k _=>by simp [tkN,prT,hdT]) ?_
     exact Rd.CQ 4 (Rd.map (fun l=>exN 14 4 l) (UR (hE.mono (by omega)) (hk a (by simp))))
   · obtain ⟨a,rfl⟩:=W9 (by simpa [H7] using hnk)
     iterate 3 refine Rd.C7 (fun k _=>by simp [tkN,prT,hdK]) ?_
     iterate 10 refine Rd.BZ (fun k _=>by simp [tkN,prT,hdT]) ?_
     exact Rd.CQ 4 (Rd.map (fun l=>exN 14 5 l) (UR (hE.mono (by omega)) (hk a (by simp))))
   · obtain ⟨a,rfl⟩:=W9 (by simpa [H7] using hnk)
     iterate 3 refine Rd.C7 (fun k _=>by simp [tkN,prT,hdK]) ?_
     iterate 11 refine Rd.BZ (fun k _=>by simp [tkN,prT,hdT]) ?_
     exact Rd.CQ 4 (Rd.map (fun l=>exN 14 6 l) (UR (hE.mono (by omega)) (hk a (by simp))))
   · obtain ⟨a,b,rfl⟩:=Sx (by simpa [H7] using hnk)
     iterate 3 refine Rd.C7 (fun k _=>by simp [tkN,prT,hdK]) ?_
     iterate 12 refine Rd.BZ (fun k _=>by simp [tkN,prT,hdT]) ?_
     exact Rd.CQ 4 (Rd.map (fun l=>exN 14 7 l) (XI (hE.mono (by omega)) (hk a (by simp)) (hk b (by simp))))
 · simp [nmB,nuB,nsB,asB,nkB] at hnm hnu hns has hnk
   subst hnm hns has hnk
   show Rd N (I6 E) _ ((4,[116,105,99,107])::(5,[40])::(Td u++[(5,[41])])) _
   unfold I6
   iterate 3 refine Rd.C7 (fun k _=>by simp [hdK]) ?_
   iterate 4 refine Rd.BZ (fun k _=>by simp [hdT]) ?_
   refine Rd.CQ 4 (Rd.C3 (K1:=fun _=>True) (Rd.exp 5) (Rd.bind (K1:=fun _=>True) (a:=u) ?_ (Rd.C3 (K1:=fun _=>True) (Rd.exp 5) (Rd.pure _) (fun _ _=>trivial)) (fun _ _=>trivial)) (fun _ _=>trivial))
   unfold Td
   split
   · have e1:u=-((u.natAbs:Nat):Int):=by omega
     refine Rd.CQ 5 ?_
     have:=Rd.map (K:=fun _=>True) (fun n=>-n) (aQ (N:=N - 1 - 1 - 1) (n:=u.natAbs) (by omega))
     rw [← e1] at this
     exact this
   · have e1:u=((u.toNat:Nat):Int):=by omega
     refine Rd.BZ (fun k _=>Nn (xH _) (by decide)) ?_
     have:=aQ (N:=N - 1 - 1) (K:=fun _=>True) (n:=u.toNat) (by omega)
     rw [← e1] at this
     exact this
 · simp [nmB,nuB,nsB,asB,nkB] at hnm hnu hns has hnk
   subst hnm hnu hns has
   obtain ⟨a,rfl⟩:=W9 hnk
   unfold I6
   iterate 3 refine Rd.C7 (fun k _=>by simp [tkN,hdK]) ?_
   iterate 5 refine Rd.BZ (fun k _=>by simp [tkN,hdT]) ?_
   exact Rd.CQ 4 (Rd.map (fun l=>exN 16 0 l) (UR (hE.mono (by omega)) (hk a (by simp))))
 · simp [lvl] at hl
end Go.Ab
