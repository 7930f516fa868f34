/- Reading the tokens of a formatted text back, in plain data: types. Reading the tokens of a formatted text back, in plain data: expressions. Conditions: none. -/
import Derived.Test.YtifplkldbbcldaaGreatDoorXQi
set_option linter.unusedSimpArgs false
set_option linter.unusedVariables false
set_option maxRecDepth 4000
set_option maxHeartbeats 8000000
open Bool renaming and_eq_true→AN,eq_false_iff→FV
open List renaming length→RW,all_eq_true→A6,append_assoc→AT,mem_cons_of_mem→Ah,map_append→Bm,map_cons→AF,map_nil→AI,contains_eq_mem→Dr,mem_cons_self→Ae,length_drop→Ai,drop_drop→CD,length_append→AA,append_nil→AZ,length_cons→AE,length_pos_iff→Ar,cons_append→A0
open Nat renaming le_refl→A7,zero_le→CQ
namespace Go.Ab
variable {N:Nat} {K:List KT→Prop}
def noP (k:List KT):Prop:=hdT k≠[40]
theorem gK:∀ {d:Nat} {t:TE},Bl d t=true→∃q x l,Hy t=(q,x)::l∧x≠[41]
 |0,.mk ..,h=>by cases h
 |d+1,.mk k n l,h=>by
  rw [Bl,AN] at h
  have h1:=h.1
  rw [Hy,Sp]
  rcases c8 h1 with rfl|rfl|rfl|rfl|rfl|rfl|rfl|rfl|rfl
  · exact ⟨_,_,_,rfl,by decide⟩
  · exact ⟨_,_,_,rfl,by decide⟩
  · exact ⟨_,_,_,rfl,by decide⟩
  · simp [Co] at h1;exact ⟨_,_,_,rfl,Nx (Vh h1.1) (by decide)⟩
  · simp [Co] at h1;exact ⟨_,_,_,rfl,Nx (mE h1.1) (by decide)⟩
  · simp [Co] at h1
    cases l with
    |nil=>simp at h1
    |cons a l=>exact ⟨_,_,_,rfl,by decide⟩
  · exact ⟨_,_,_,rfl,by decide⟩
  · exact ⟨_,_,_,rfl,by decide⟩
  · exact ⟨_,_,_,rfl,by decide⟩
theorem iR {q:Int} {x:Str} {l:List KT} {ks:List KT} (h:ks=(q,x)::l) (k:List KT):hdT (ks++k)=x∧hdK (ks++k)=q:=by
 subst h;exact ⟨rfl,rfl⟩
theorem U1 {α:Type} {m:PM α} {a:α} {q:Int} {x:Str} {l ks:List KT} (h:ks=(q,x)::l):Rd 0 m a ks K:=fun r p k h1 _ hs _=>by
 have:=congrArg RW hs
 rw [PU,h] at this
 simp at this;omega
theorem Ip {α:Type} {m:PM α} {a:α} {ks:List KT} (h:ks≠[]):Rd 0 m a ks K:=by
 cases ks with
 |nil=>exact absurd rfl h
 |cons x l=>exact U1 (q:=x.1) (x:=x.2) (l:=l) rfl
theorem Sf (x y:List KT) (l:List (List KT)):cmK (x::y::l)=x++((5,[44])::cmK (y::l)):=by
 unfold cmK;rw [b9];rfl
theorem Ug (x:List KT):cmK [x]=x:=lB _ x
theorem pS:∀(d:Nat) (t:TE),Bl d t=true→∀n N,N≤n→Rd N (Fp n) t (Hy t) noP
 |0,.mk ..,h,_,_,_=>by cases h
 |d+1,.mk k nm l,h,0,N,hN=>by
  obtain ⟨q,x,r,e,_⟩:=gK h
  have:N=0:=by omega
  subst this
  exact U1 e
 |d+1,.mk k nm l,h,n+1,N,hN=>by
  rw [Bl,AN,A6] at h
  obtain ⟨h1,h2⟩:=h
  have ih:=fun x (hx:x∈l) M (hM:M+1≤N)=>pS d x (h2 x hx) n M (by omega)
  have h5:∀k:List KT,noP ((5,[44])::k):=fun k=>by simp [noP,hdT]
  have h6:∀k:List KT,noP ((5,[41])::k):=fun k=>by simp [noP,hdT]
  rw [Fp,Hy,Sp]
  rcases c8 h1 with rfl|rfl|rfl|rfl|rfl|rfl|rfl|rfl|rfl
  · simp [Co] at h1
    obtain ⟨rfl,rfl⟩:=h1
    exact Rd.C2 (fun k _=>by simp [NS,hdK]) (Rd.C2 (fun k _=>by simp [NS,hdK]) (Rd.CO 4 (Rd.pure _)))
  · simp [Co] at h1
    obtain ⟨rfl,rfl⟩:=h1
    exact Rd.C2 (fun k _=>by simp [NS,hdK]) (Rd.C2 (fun k _=>by simp [NS,hdK]) (Rd.BZ (fun k _=>by simp [NS,hdT]) (Rd.CO 4 (Rd.pure _))))
  · simp [Co] at h1
    obtain ⟨rfl,rfl⟩:=h1
    exact Rd.C2 (fun k _=>by simp [NS,hdK]) (Rd.C2 (fun k _=>by simp [NS,hdK]) (Rd.BZ (fun k _=>by simp [NS,hdT]) (Rd.BZ (fun k _=>by simp [NS,hdT]) (Rd.CO 4 (Rd.pure _)))))
  · simp [Co] at h1
    obtain ⟨h1,rfl⟩:=h1
    exact Rd.YJ (Rd.map (fun x=>TE.mk 4 x []) (Rd.take nm))
  · exact Rd.C2 (fun k _=>by simp [NS,hdK]) (Rd.YJ (Rd.C0 (K1:=fun _=>True) (Rd.take nm) (Rd.map (fun l=>TE.mk 5 nm l) ((XX (N:=N - 1) h5 h6 l (fun x hx M hM=>ih x hx M (by omega))).imp (fun k hk _=>hk))) (fun _ _=>trivial)))
  · simp [Co] at h1
    match l,h1,h2,ih with
    |a::b::l,h1,h2,ih=>
     have hs:NS 6 nm ((a::b::l).map Hy)=(5,[40])::(Hy a++((5,[44])::(cmK ((b::l).map Hy)++[(5,[41])]))):=by
      show Hu (cmK (Hy a::Hy b::l.map Hy))=_
      rw [Sf,Hu,AT];rfl
     rw [hs,h1.1.1]
     refine Rd.C2 (fun k _=>by simp [hdK]) (Rd.C2 (fun k _=>by simp [hdK]) (Rd.BZ (fun k _=>by simp [hdT]) (Rd.BZ (fun k _=>by simp [hdT]) (Rd.BZ (fun k _=>by simp [hdT]) (Rd.BZ (fun k _=>by simp [hdT]) (Rd.BZ (fun k _=>by simp [hdT]) (Rd.CO 5 ?_)))))))
     by_cases hN0:N=0
     · subst hN0
       obtain ⟨q,x,r,e,_⟩:=gK (h2 a (by simp))
       refine U1 (q:=q) (x:=x) (l:=r++((5,[44])::(cmK ((b::l).map Hy)++[(5,[41])]))) ?_
       rw [e];rfl
     · exact Rd.bind (ih a (by simp) (N - 1) (by omega)) (Rd.C0 (K1:=fun _=>True) (Rd.exp 5) (Rd.map (fun l=>TE.mk 6 [] (a::l)) (O1 h5 h6 (by simp) (fun x hx M hM=>ih x (Ah _ hx) M (by omega)))) (fun _ _=>trivial)) (fun k _=>h5 _)
  · simp [Co] at h1
    obtain ⟨rfl,hl⟩:=h1
    obtain ⟨a,rfl⟩:=Wi hl
    have hs:NS 7 [] ([a].map Hy)=(4,[97,114,114,97,121])::(5,[40])::(Hy a++[(5,[41])]):=by
     show (4,[97,114,114,97,121])::Hu (cmK [Hy a])=_
     rw [Ug];rfl
    rw [hs]
    refine Rd.C2 (fun k _=>by simp [hdK]) (Rd.C2 (fun k _=>by simp [hdK]) (Rd.BZ (fun k _=>by simp [hdT]) (Rd.BZ (fun k _=>by simp [hdT]) (Rd.BZ (fun k _=>by simp [hdT]) (Rd.CO 4 (Rd.C0 (K1:=fun _=>True) (Rd.exp 5) ?_ (fun _ _=>trivial)))))))
    by_cases hN0:N=0
    · subst hN0
      obtain ⟨q,x,r,e,_⟩:=gK (h2 a (by simp))
      exact U1 (by rw [e];rfl)
    · exact Rd.bind (ih a (by simp) (N - 1 - 1) (by omega)) (Rd.C0 (K1:=fun _=>True) (Rd.exp 5) (Rd.pure _) (fun _ _=>trivial)) (fun k _=>h6 _)
  · simp [Co] at h1
    obtain ⟨rfl,hl⟩:=h1
    obtain ⟨a,rfl⟩:=Wi hl
    have hs:NS 8 [] ([a].map Hy)=(4,[114,101,102])::(5,[40])::(Hy a++[(5,[41])]):=by
     show (4,[114,101,102])::Hu (cmK [Hy a])=_
     rw [Ug];rfl
    rw [hs]
    refine Rd.C2 (fun k _=>by simp [hdK]) (Rd.C2 (fun k _=>by simp [hdK]) (Rd.BZ (fun k _=>by simp [hdT]) (Rd.BZ (fun k _=>by simp [hdT]) (Rd.BZ (fun k _=>by simp [hdT]) (Rd.BZ (fun k _=>by simp [hdT]) (Rd.CO 4 (Rd.C0 (K1:=fun _=>True) (Rd.exp 5) ?_ (fun _ _=>trivial))))))))
    by_cases hN0:N=0
    · subst hN0
      obtain ⟨q,x,r,e,_⟩:=gK (h2 a (by simp))
      exact U1 (by rw [e];rfl)
    · exact Rd.bind (ih a (by simp) (N - 1 - 1) (by omega)) (Rd.C0 (K1:=fun _=>True) (Rd.exp 5) (Rd.pure _) (fun _ _=>trivial)) (fun k _=>h6 _)
  · simp [Co] at h1
    obtain ⟨⟨rfl,hl⟩,_⟩:=h1
    obtain ⟨m,x,rfl⟩:=UJ hl
    have hs:NS 9 [] ((m++[x]).map Hy)=(4,[102,110])::(5,[40])::((cmK (m.map Hy)++[(5,[41])])++((5,[45,62])::Hy x)):=by
     show (4,[102,110])::(Le ((m++[x]).map Hy).dropLast++((5,[45,62])::((m++[x]).map Hy).getLastD []))=_
     simp only [Bm,AF,AI,List.dropLast_concat,List.getLastD_concat]
     rfl
    rw [hs]
    refine Rd.C2 (fun k _=>by simp [hdK]) (Rd.C2 (fun k _=>by simp [hdK]) (Rd.BZ (fun k _=>by simp [hdT]) (Rd.BZ (fun k _=>by simp [hdT]) (Rd.BZ (fun k _=>by simp [hdT]) (Rd.BZ (fun k _=>by simp [hdT]) (Rd.BZ (fun k _=>by simp [hdT]) (Rd.BZ (fun k _=>by simp [hdT]) (Rd.CO 4 (Rd.C0 (K1:=fun _=>True) (Rd.exp 5) ?_ (fun _ _=>trivial))))))))))
    by_cases hN0:N=0
    · subst hN0
      exact Ip (by simp)
    · refine Rd.bind (K1:=fun _=>True) (bI h5 h6 m (fun y hy M hM=>ih y (List.mem_append_left _ hy) M (by omega)) (fun y hy k=>?_)) (Rd.C0 (K1:=fun _=>True) (Rd.exp 5) (Rd.map (fun t=>TE.mk 9 [] (m++[t])) (ih x (by simp) _ (by omega))) (fun _ _=>trivial)) (fun _ _=>trivial)
      obtain ⟨q,z,r,e,hz⟩:=gK (h2 y (List.mem_append_left _ hy))
      rw [(iR e k).1];exact hz
theorem yC {c:CE} (h:Rb c=true) (hN:N≤BI):Rd N fF c (tkC c) noP:=by
 simp only [Rb,AN,A6] at h
 refine Rd.C0 (K1:=fun _=>True) (Rd.take c.name) (Rd.map (fun l=>CE.mk c.name l) ((XX (Kr:=noP) (fun k=>by simp [noP,hdT]) (fun k=>by simp [noP,hdT]) c.args (fun x hx M hM=>pS 40 x (h.2 x hx) BI M (by omega))).imp (fun k hk _=>hk))) (fun _ _=>trivial)
theorem uC {d:DE} (h:Ge d=true) (hN:N≤BI):Rd N Ti d ((2,d.name)::(VC (d.vars.map fun s=>[(1,s)])++((5,[61])::([((5:Int),[124])].intercalate (d.cons.map tkC)++[(5,[59])])))) K:=by
 simp only [Ge,AN,A6,decide_eq_true_eq] at h
 obtain ⟨⟨⟨⟨⟨h1,h2⟩,h3⟩,h4⟩,h5⟩,h6⟩:=h
 have hne:d.cons≠[]:=by intro e;rw [e] at h4;simp at h4
 refine Rd.C0 (K1:=fun _=>True) (Rd.take d.name) (Rd.bind (XX (Kr:=fun _=>True) (g:=fun s=>[(1,s)]) (fun _=>trivial) (fun _=>trivial) d.vars (fun s hs M _=>Rd.take s)) (Rd.C0 (K1:=fun _=>True) (Rd.exp 5) (Rd.bind (XW (g:=tkC) (Kr:=noP) (fun k=>by simp [noP,hdT]) hne (fun c hc M hM=>yC (h6 c hc) (by omega))) (Rd.C0 (K1:=fun _=>True) (Rd.exp 5) (Rd.pure _) (fun _ _=>trivial)) (fun k _=>⟨by simp [noP,hdT],by simp [hdT]⟩)) (fun _ _=>trivial)) (fun k _ _=>by simp [hdT])) (fun _ _=>trivial)
end Go.Ab
namespace Go.Ab
variable {N:Nat} {K:List KT→Prop}
def opens:List Str:=[[108,101,116],[105,102],[109,97,116,99,104],[102,110],[116,114,121]]
def Fa (ks:List KT) (b:Prop):Prop:=∃q x l,ks=(q,x)::l∧x≠[41]∧(b→opens.contains x=false)
theorem ACJ {x:Str} {l:List Str} (h:Nw x=false) (hl:l.all Nw=true):l.contains x=false:=by
 rw [FV]
 intro hc
 have hm:x∈l:=by simpa [Dr] using hc
 have:=A6.1 hl x hm
 rw [h] at this;cases this
theorem xY (n:Nat):Nw (Lib.decDigits n)=false:=by
 rw [FV]
 intro hw
 obtain ⟨b,l,e,_,h,_⟩:=Sq hw
 have:=iK n b (by rw [e];exact Ae ..)
 simp only [CL] at this
 rw [h] at this;cases this
theorem Fa.par {t:List KT} {b:Prop}:Fa (Hu t) b:=⟨_,_,_,rfl,by decide,fun _=>by decide⟩
theorem Fa.app {t k:List KT} {b:Prop} (h:Fa t b):Fa (t++k) b:=by
 obtain ⟨q,x,l,rfl,h1,h2⟩:=h
 exact ⟨q,x,l++k,rfl,h1,h2⟩
theorem Fa.c {q:Int} {x:Str} {l:List KT} {b:Prop} (h1:x≠[41]) (h2:b→opens.contains x=false):Fa ((q,x)::l) b:=⟨q,x,l,rfl,h1,h2⟩
theorem Fa.w {q:Int} {x:Str} {l:List KT} {b:Prop} (h:Nw x=false):Fa ((q,x)::l) b:=⟨q,x,l,rfl,Nx h (by decide),fun _=>ACJ h (by decide)⟩
theorem Fa.plK {d:Nat} {e:Ex} {t:List KT} (hd:1≤d) (h:Fa t (1≤lvl e)) {b:Prop}:Fa (plK d e t) b:=by
 unfold Ab.plK
 split
 · exact Fa.par
 · rename_i hl
   obtain ⟨q,x,l,e1,h1,h2⟩:=h
   exact ⟨q,x,l,e1,h1,fun _=>h2 (by omega)⟩
theorem fE (u:Int):1≤Eb u:=by
 unfold Eb;split
 · omega
 · split<;>omega
theorem xT:∀(s:Nat) (e:Ex),e.size≤s→e.nb→Fa (tkE e) (1≤lvl e)
 |0,e,hs,_=>by have:=e.size_pos;omega
 |s+1,.mk o n u ns ks al,hs,h=>by
  rw [Ex.nb,Ex.Nq] at h
  obtain ⟨hn,hk,_⟩:=h
  have ih:∀x∈ks,Fa (tkE x) (1≤lvl x):=fun x hx=>xT s x (by have:=Ex.NF hx;simp only [Ex.size] at hs;omega) (hk x hx)
  simp only [GU,AN] at hn
  obtain ⟨⟨⟨⟨hnm,hnu⟩,hns⟩,has⟩,hnk⟩:=hn
  rw [tkE,NR,NQ]
  rcases lP hnk with rfl|rfl|rfl|rfl|rfl|rfl|rfl|rfl|rfl|rfl|rfl|rfl|rfl|rfl|rfl|rfl|rfl
  · exact Fa.c (by decide) (fun _=>by decide)
  · show Fa (if u=1 then [(4,[116,114,117,101])] else [(4,[102,97,108,115,101])]) _
    split
    · exact Fa.c (by decide) (fun _=>by decide)
    · exact Fa.c (by decide) (fun _=>by decide)
  · show Fa (Tm u) _
    unfold Tm
    split
    · exact Fa.c (by decide) (fun _=>by decide)
    · exact Fa.w (xY _)
  · exact Fa.w (Vh (by simpa [nmB] using hnm))
  · exact Fa.par
  · exact Fa.w (mE (by simpa [nmB] using hnm))
  · exact Fa.c (by decide) (fun hl=>by simp [lvl] at hl)
  · exact Fa.c (by decide) (fun hl=>by simp [lvl] at hl)
  · exact Fa.c (by decide) (fun hl=>by simp [lvl] at hl)
  · exact Fa.c (by decide) (fun hl=>by simp [lvl] at hl)
  · exact Fa.c (by decide) (fun hl=>by simp [lvl] at hl)
  · cases ks with
    |nil=>simp [nkB] at hnk
    |cons f l=>
     show Fa ((if Mc f then Hu (tkE f) else plK 4 f (tkE f))++Le (l.map tkE)) _
     refine Fa.app ?_
     split
     · exact Fa.par
     · exact Fa.plK (by omega) (ih f (by simp))
  · obtain ⟨a,b,rfl⟩:=TG (by simpa [nkB] using hnk)
    exact (Fa.plK (by have:=fE u;split<;>omega) (ih a (by simp))).app
  · show Fa ((4,prT u)::Le (ks.map tkE)) _
    unfold prT
    repeat' split
    all_goals exact Fa.c (by decide) (fun _=>by decide)
  · exact Fa.c (by decide) (fun _=>by decide)
  · exact Fa.c (by decide) (fun _=>by decide)
  · exact Fa.c (by decide) (fun hl=>by simp [lvl] at hl)
theorem zD {e:Ex} (h:e.nb):Fa (tkE e) (1≤lvl e):=xT e.size e (A7 _) h
theorem qZ {e:Ex} (h:e.nb) (k:List KT):hdT (tkE e++k)≠[41]:=by
 obtain ⟨q,x,l,e1,h1,_⟩:=zD h
 rw [(iR e1 k).1];exact h1
theorem k8 {e:Ex} (h:e.nb):tkE e≠[]:=by
 obtain ⟨q,x,l,e1,_⟩:=zD h
 rw [e1];simp
def Gs (N:Nat) (m m':PM Ex) (ks:List KT) (K:List KT→Prop):Prop:=
 ∀r p k,r.length≤N→r.length≤17000→strip r=ks++k→K k→m.run ⟨r,false,p⟩=m'.run ⟨r.drop ks.length,false,p⟩
theorem Gs.refl (m:PM Ex):Gs N m m [] K:=fun _ _ _ _ _ _ _=>rfl
theorem Gs.bind {α:Type} {m:PM α} {f:α→PM Ex} {m':PM Ex} {a:α} {k1 k2:List KT} {K1:List KT→Prop} (h1:Rd N m a k1 K1) (h2:Gs (N - k1.length) (f a) m' k2 K) (hK:∀k,K k→K1 (k2++k)):Gs N (m.bind f) m' (k1++k2) K:=fun r p k hN hL hs hk=>by
 rw [AT] at hs
 have e1:=h1 r p (k2++k) hN hL hs (hK k hk)
 have e2:=h2 (r.drop k1.length) p k (by rw [Ai];omega) (by rw [Ai];omega) (KV hs) hk
 show (f (m.run ⟨r,false,p⟩).1).run (m.run ⟨r,false,p⟩).2=_
 rw [e1]
 show (f a).run ⟨r.drop k1.length,false,p⟩=_
 rw [e2,CD,AA]
theorem Gs.last {α:Type} {m:PM α} {f:α→PM Ex} {a:α} {k1:List KT} (h1:Rd N m a k1 K):Gs N (m.bind f) (f a) k1 K:=by
 have:=Gs.bind (m':=f a) (K:=K) h1 (Gs.refl (f a)) (fun k h=>h)
 rwa [AZ] at this
theorem Gs.CO {t:Str} {ht:t≠[]} {y n m':PM Ex} {ks:List KT} (q:Int) (h:Gs (N - 1) y m' ks K):Gs N (.acc t ht y n) m' ((q,t)::ks) K:=fun r p k hN hL hs hk=>by
 have hh:=(G5 hs).1
 rw [sF (by rw [hh];simp [hdT])]
 have e:=h r.tail p k (by rw [List.length_tail];omega) (by rw [List.length_tail];omega) (by have:=KV (ks:=[(q,t)]) hs;simpa using this) hk
 rw [e,AE,← List.drop_one,CD,Nat.add_comm]
theorem Gs.BZ {t:Str} {ht:t≠[]} {y n m':PM Ex} {ks:List KT} (hn:∀k,K k→hdT (ks++k)≠t) (h:Gs N n m' ks K):Gs N (.acc t ht y n) m' ks K:=fun r p k hN hL hs hk=>by
 have hh:=(G5 hs).1
 rw [SL (by rw [hh];simpa using hn k hk)]
 exact h r p k hN hL hs hk
theorem Ac.of {m:PM Ex} {c:Nat→Ex→PM Ex} {e:Ex} {ks:List KT} (h:Rd N m e ks K):Ac N (m.bind fun a=>c BI a) c e ks K:=⟨0,CQ _,Gs.last (f:=fun a=>c BI a) h⟩
theorem Ac.step {m:PM Ex} {c:Nat→Ex→PM Ex} {a e:Ex} {k1 k2:List KT} {K1:List KT→Prop} (h1:Ac N m c a k1 K1) (h2:∀n,Gs (N - k1.length) (c (n+1) a) (c n e) k2 K) (hk2:k2≠[]) (hK:∀k,K k→K1 (k2++k)):Ac N m c e (k1++k2) K:=by
 obtain ⟨j,hj,h1⟩:=h1
 have hl2:1≤k2.length:=Ar.2 hk2
 refine ⟨j+1,by rw [AA];omega,fun r p k hN hL hs hk=>?_⟩
 have hsl:=congrArg RW hs
 rw [PU,AA,AA] at hsl
 rw [AT] at hs
 have e1:=h1 r p (k2++k) hN hL hs (hK k hk)
 have hf:=F6
 have e2:=h2 (BI - (j+1)) (r.drop k1.length) p k (by rw [Ai];omega) (by rw [Ai];omega) (KV hs) hk
 rw [e1,show BI - j=BI - (j+1)+1 by omega,e2,CD,AA]
theorem Ac.fin {m:PM Ex} {c:Nat→Ex→PM Ex} {e:Ex} {ks:List KT} {K':List KT→Prop} (h:Ac N m c e ks K) (hK:∀k,K' k→K k) (hc:∀n r p,K' (strip r)→(c n e).run ⟨r,false,p⟩=(e,⟨r,false,p⟩)):Rd N m e ks K':=by
 obtain ⟨j,_,h⟩:=h
 intro r p k hN hL hs hk
 rw [h r p k hN hL hs (hK k hk)]
 exact hc _ _ _ (by rw [KV hs];exact hk)
theorem Ac.imp {m:PM Ex} {c:Nat→Ex→PM Ex} {e:Ex} {ks:List KT} {K':List KT→Prop} (h:Ac N m c e ks K) (hK:∀k,K' k→K k):Ac N m c e ks K':=by
 obtain ⟨j,hj,h⟩:=h
 exact ⟨j,hj,fun r p k hN hL hs hk=>h r p k hN hL hs (hK k hk)⟩
theorem OK {l:List Str} {k:List KT} (h:noT l k) {t:Str} (ht:l.contains t=true):hdT k≠t:=fun e=>by
 unfold noT at h;rw [e,ht] at h;cases h
theorem Od (r:List Tok):(r.headD US).text=hdT (strip r):=(G5 rfl).1
theorem Zs {E:PM Ex}:∀n e r p,hdT (strip r)≠[40]→(Tr E n e).run ⟨r,false,p⟩=(e,⟨r,false,p⟩)
 |0,e,r,p,_=>rfl
 |n+1,e,r,p,h=>by
  rw [Tr,SL (by rw [Od];simpa using h)];rfl
def sPr:List Str:=[[40],[42],[47],[37]]
def sSu:List Str:=[[40],[42],[47],[37],[43],[45]]
def sEx:List Str:=[[40],[42],[47],[37],[43],[45],[60],[60,61],[61,61]]
theorem VA {l m:List Str} (hs:m.all (fun t=>l.contains t)=true) {k:List KT} (h:noT l k):noT m k:=by
 unfold noT at h ⊢
 rw [FV] at h ⊢
 intro hc
 have hm:hdT k∈m:=by simpa [Dr] using hc
 exact h (A6.1 hs _ hm)
theorem Y0 {E:PM Ex}:∀n e r p,noT sPr (strip r)→(Jw E n e).run ⟨r,false,p⟩=(e,⟨r,false,p⟩)
 |0,e,r,p,_=>rfl
 |n+1,e,r,p,h=>by
  rw [Jw,SL (by rw [Od];simpa using OK h (t:=[42]) (by decide)),SL (by rw [Od];simpa using OK h (t:=[47]) (by decide)),SL (by rw [Od];simpa using OK h (t:=[37]) (by decide))];rfl
theorem pG {E:PM Ex}:∀n e r p,noT sSu (strip r)→(TO E n e).run ⟨r,false,p⟩=(e,⟨r,false,p⟩)
 |0,e,r,p,_=>rfl
 |n+1,e,r,p,h=>by
  rw [TO,SL (by rw [Od];simpa using OK h (t:=[43]) (by decide)),SL (by rw [Od];simpa using OK h (t:=[45]) (by decide))];rfl
def HE (E:PM Ex) (N:Nat):Prop:=∀x:Ex,x.nb→∀M,M+1≤N→Rd M E x (tkE x) (noT sEx)
theorem HE.mono {E:PM Ex} {M:Nat} (h:HE E N) (hM:M≤N):HE E M:=fun x hx M' h'=>h x hx M' (by omega)
theorem Y6 (k:List KT):noT sEx ((5,[41])::k):=by show sEx.contains [41]=false;decide
theorem Xn (k:List KT):noT sEx ((5,[44])::k):=by show sEx.contains [44]=false;decide
theorem XY {E:PM Ex} (hE:HE E N) {e:Ex} (h:e.nb):Rd N (I8 E) e (Hu (tkE e)) K:=by
 by_cases hN:N=0
 · subst hN;exact Ip (by simp [Hu])
 unfold Hu I8
 iterate 3 refine Rd.C2 (fun k _=>by simp [hdK]) ?_
 iterate 3 refine Rd.BZ (fun k _=>by simp [hdT]) ?_
 refine Rd.CO 5 ?_
 unfold cR
 refine Rd.BZ (fun k _=>by rw [AT];exact qZ h _) ?_
 exact Rd.bind (hE e h (N - 1) (by omega)) (Rd.CO 5 (Rd.pure e)) (fun k _=>Y6 k)
theorem cM {o u:Int} {n:Str} {ns:List Str} {ks:List Ex} {al:List Al} (h:(Ex.mk o n u ns ks al).nb):nmB o n=true∧nuB o u=true∧nsB o ns=true∧asB o al=true∧nkB o u ks.length=true∧(∀x∈ks,x.nb)∧∀a∈al,a.nb:=by
 rw [Ex.nb,Ex.Nq,Al.Nq] at h
 obtain ⟨hn,hk,ha⟩:=h
 simp only [GU,AN] at hn
 obtain ⟨⟨⟨⟨hnm,hnu⟩,hns⟩,has⟩,hnk⟩:=hn
 exact ⟨hnm,hnu,hns,has,hnk,hk,ha⟩
theorem U0 {E:PM Ex} (hE:HE E N) {a:Ex} (h:a.nb):Rd N (OM E) [a] (Le [tkE a]) K:=by
 unfold Le;rw [Ug];unfold Hu OM
 by_cases hN:N=0
 · subst hN;exact Ip (by simp)
 exact Rd.C0 (K1:=fun _=>True) (Rd.exp 5) (Rd.bind (hE a h _ (by omega)) (Rd.C0 (K1:=fun _=>True) (Rd.exp 5) (Rd.pure _) (fun _ _=>trivial)) (fun k _=>Y6 k)) (fun _ _=>trivial)
theorem XV {E:PM Ex} (hE:HE E N) {a b:Ex} (h:a.nb) (h2:b.nb):Rd N (SJ E) [a,b] (Le [tkE a,tkE b]) K:=by
 unfold Le;rw [Sf,Ug];unfold Hu SJ
 by_cases hN:N=0
 · subst hN;exact Ip (by simp)
 rw [AT,A0]
 exact Rd.C0 (K1:=fun _=>True) (Rd.exp 5) (Rd.bind (hE a h _ (by omega)) (Rd.C0 (K1:=fun _=>True) (Rd.exp 5) (Rd.bind (hE b h2 _ (by omega)) (Rd.C0 (K1:=fun _=>True) (Rd.exp 5) (Rd.pure _) (fun _ _=>trivial)) (fun k _=>Y6 k)) (fun _ _=>trivial)) (fun k _=>Xn _)) (fun _ _=>trivial)
theorem pR {E:PM Ex} (hE:HE E N) {a b c:Ex} (h:a.nb) (h2:b.nb) (h3:c.nb):Rd N (cQ E) [a,b,c] (Le [tkE a,tkE b,tkE c]) K:=by
 unfold Le;rw [Sf,Sf,Ug];unfold Hu cQ
 by_cases hN:N=0
 · subst hN;exact Ip (by simp)
 rw [AT,A0,AT,A0]
 exact Rd.C0 (K1:=fun _=>True) (Rd.exp 5) (Rd.bind (hE a h _ (by omega)) (Rd.C0 (K1:=fun _=>True) (Rd.exp 5) (Rd.bind (hE b h2 _ (by omega)) (Rd.C0 (K1:=fun _=>True) (Rd.exp 5) (Rd.bind (hE c h3 _ (by omega)) (Rd.C0 (K1:=fun _=>True) (Rd.exp 5) (Rd.pure _) (fun _ _=>trivial)) (fun k _=>Y6 k)) (fun _ _=>trivial)) (fun k _=>Xn _)) (fun _ _=>trivial)) (fun k _=>Xn _)) (fun _ _=>trivial)
theorem bJ {n:Nat} (h:n≤1000000):Rd N J6 (n:Int) [(3,Lib.decDigits n)] K:=by
 have:=Rd.map (N:=N) (K:=K) Qw (Rd.take (hq:=by decide) (q:=3) (Lib.decDigits n))
 rw [wH h] at this
 exact this
theorem uD {E:PM Ex} (hE:HE E N) {e:Ex} (h:e.nb) (hl:lvl e=5):Rd N (I8 E) e (tkE e) (fun k=>Mc e=true→hdT k≠[40]):=by
 by_cases hN:N=0
 · subst hN;exact Ip (k8 h)
 obtain ⟨o,n,u,ns,ks,al⟩:=e
 obtain ⟨hnm,hnu,hns,has,hnk,hk,-⟩:=cM h
 rw [tkE,NR,NQ]
 rcases lP hnk with rfl|rfl|rfl|rfl|rfl|rfl|rfl|rfl|rfl|rfl|rfl|rfl|rfl|rfl|rfl|rfl|rfl
 · simp [nmB,nuB,nsB,asB,nkB] at hnm hnu hns has hnk
   subst hnm hnu hns has hnk
   unfold I8
   iterate 3 refine Rd.C2 (fun k _=>by simp [tkN,hdK]) ?_
   iterate 3 refine Rd.BZ (fun k _=>by simp [tkN,hdT]) ?_
   refine Rd.CO 5 ?_
   unfold cR
   exact Rd.CO 5 (Rd.pure _)
 · simp [nmB,nuB,nsB,asB,nkB] at hnm hnu hns has hnk
   subst hnm hns has hnk
   have hu:u=1∨u=0:=by omega
   unfold I8
   rcases hu with rfl|rfl
   · iterate 3 refine Rd.C2 (fun k _=>by simp [tkN,hdK]) ?_
     iterate 1 refine Rd.BZ (fun k _=>by simp [tkN,hdT]) ?_
     exact Rd.CO 4 (Rd.pure _)
   · iterate 3 refine Rd.C2 (fun k _=>by simp [tkN,hdK]) ?_
     iterate 2 refine Rd.BZ (fun k _=>by simp [tkN,hdT]) ?_
     exact Rd.CO 4 (Rd.pure _)
 · simp [nmB,nuB,nsB,asB,nkB] at hnm hnu hns has hnk
   subst hnm hns has hnk
   show Rd N (I8 E) _ (Tm u) _
   unfold Tm I8
   split
   · rename_i hu
     iterate 3 refine Rd.C2 (fun k _=>by simp [hdK]) ?_
     have e1:u=-((u.natAbs:Nat):Int):=by omega
     refine Rd.CO 5 ?_
     have:=Rd.map (K:=fun k=>Mc (.mk 3 [] u [] [] [])=true→hdT k≠[40]) (fun n=>exN 3 (-n) []) (bJ (N:=N - 1) (n:=u.natAbs) (by omega))
     rw [← e1] at this
     exact this
   · rename_i hu
     have e1:u=((u.toNat:Nat):Int):=by omega
     refine Rd.YJ ?_
     have:=Rd.map (K:=fun k=>Mc (.mk 3 [] u [] [] [])=true→hdT k≠[40]) (fun n=>exN 3 n []) (bJ (N:=N) (n:=u.toNat) (by omega))
     rw [← e1] at this
     exact this
 · simp [nmB,nuB,nsB,asB,nkB] at hnm hnu hns has hnk
   subst hnu hns has hnk
   unfold I8
   refine Rd.C2 (fun k _=>by simp [tkN,hdK]) ?_
   exact Rd.YJ (Rd.map (fun x=>Ex.mk 4 x 0 [] [] []) (Rd.take n))
 · simp [nmB,nuB,nsB,asB,nkB] at hnm hnu hns has hnk
   subst hnm hnu hns has
   match ks,hnk,hk with
   |a::b::l,_,hk=>
    have hs:tkN 5 [] 0 [] (a::b::l) ((a::b::l).map tkE) ([].map tkA)=(5,[40])::(tkE a++((5,[44])::(cmK ((b::l).map tkE)++[(5,[41])]))):=by
     show Hu (cmK (tkE a::tkE b::l.map tkE))=_
     rw [Sf,Hu,AT];rfl
    rw [hs]
    unfold I8
    iterate 3 refine Rd.C2 (fun k _=>by simp [hdK]) ?_
    iterate 3 refine Rd.BZ (fun k _=>by simp [hdT]) ?_
    refine Rd.CO 5 ?_
    unfold cR
    refine Rd.BZ (fun k _=>by rw [AT];exact qZ (hk a (by simp)) _) ?_
    refine Rd.bind (hE a (hk a (by simp)) _ (by omega)) (Rd.BZ (fun k _=>by simp [hdT]) (Rd.C0 (K1:=fun _=>True) (Rd.exp 5) (Rd.map (fun l=>exN 5 0 (a::l)) (O1 (Kr:=noT sEx) Xn Y6 (by simp) (fun x hx M hM=>hE x (hk x (Ah _ hx)) M (by omega)))) (fun _ _=>trivial))) (fun k _=>Xn _)
 · simp [nmB,nuB,nsB,asB,nkB] at hnm hnu hns has hnk
   subst hnu hns has
   unfold I8
   iterate 2 refine Rd.C2 (fun k _=>by simp [tkN,hdK]) ?_
   refine Rd.YJ (Rd.C0 (K1:=fun _=>True) (Rd.take n) (Rd.map (fun l=>Ex.mk 6 n 0 [] l []) ((XX (N:=N - 1) (Kr:=noT sEx) Xn Y6 ks (fun x hx M hM=>hE x (hk x hx) M (by omega))).imp (fun k hb hks=>hb (by simp [Mc,hks])))) (fun _ _=>trivial))
 · simp [lvl] at hl
 · simp [lvl] at hl
 · simp [lvl] at hl
 · simp [lvl] at hl
 · simp [lvl] at hl
 · simp [lvl] at hl
 · exfalso
   have:Eb u=5:=hl
   unfold Eb at this;split at this
   · omega
   · split at this<;>omega
 · simp [nmB,nuB,nsB,asB,nkB] at hnm hnu hns has hnk
   subst hnm hns has
   have hu:u=1∨u=2∨u=3∨u=4∨u=5∨u=6∨u=7:=by omega
   unfold I8
   rcases hu with rfl|rfl|rfl|rfl|rfl|rfl|rfl
   · obtain ⟨a,b,rfl⟩:=TG (by simpa [H8] using hnk)
     iterate 3 refine Rd.C2 (fun k _=>by simp [tkN,prT,hdK]) ?_
     iterate 6 refine Rd.BZ (fun k _=>by simp [tkN,prT,hdT]) ?_
     exact Rd.CO 4 (Rd.map (fun l=>exN 14 1 l) (XV (hE.mono (by omega)) (hk a (by simp)) (hk b (by simp))))
   · obtain ⟨a,b,rfl⟩:=TG (by simpa [H8] using hnk)
     iterate 3 refine Rd.C2 (fun k _=>by simp [tkN,prT,hdK]) ?_
     iterate 7 refine Rd.BZ (fun k _=>by simp [tkN,prT,hdT]) ?_
     exact Rd.CO 4 (Rd.map (fun l=>exN 14 2 l) (XV (hE.mono (by omega)) (hk a (by simp)) (hk b (by simp))))
   · obtain ⟨a,b,c,rfl⟩:=jH (by simpa [H8] using hnk)
     iterate 3 refine Rd.C2 (fun k _=>by simp [tkN,prT,hdK]) ?_
     iterate 8 refine Rd.BZ (fun k _=>by simp [tkN,prT,hdT]) ?_
     exact Rd.CO 4 (Rd.map (fun l=>exN 14 3 l) (pR (hE.mono (by omega)) (hk a (by simp)) (hk b (by simp)) (hk c (by simp))))
   · obtain ⟨a,rfl⟩:=Wi (by simpa [H8] using hnk)
     iterate 3 refine Rd.C2 (fun k _=>by simp [tkN,prT,hdK]) ?_
     iterate 9 refine Rd.BZ (fun k _=>by simp [tkN,prT,hdT]) ?_
     exact Rd.CO 4 (Rd.map (fun l=>exN 14 4 l) (U0 (hE.mono (by omega)) (hk a (by simp))))
   · obtain ⟨a,rfl⟩:=Wi (by simpa [H8] using hnk)
     iterate 3 refine Rd.C2 (fun k _=>by simp [tkN,prT,hdK]) ?_
     iterate 10 refine Rd.BZ (fun k _=>by simp [tkN,prT,hdT]) ?_
     exact Rd.CO 4 (Rd.map (fun l=>exN 14 5 l) (U0 (hE.mono (by omega)) (hk a (by simp))))
   · obtain ⟨a,rfl⟩:=Wi (by simpa [H8] using hnk)
     iterate 3 refine Rd.C2 (fun k _=>by simp [tkN,prT,hdK]) ?_
     iterate 11 refine Rd.BZ (fun k _=>by simp [tkN,prT,hdT]) ?_
     exact Rd.CO 4 (Rd.map (fun l=>exN 14 6 l) (U0 (hE.mono (by omega)) (hk a (by simp))))
   · obtain ⟨a,b,rfl⟩:=TG (by simpa [H8] using hnk)
     iterate 3 refine Rd.C2 (fun k _=>by simp [tkN,prT,hdK]) ?_
     iterate 12 refine Rd.BZ (fun k _=>by simp [tkN,prT,hdT]) ?_
     exact Rd.CO 4 (Rd.map (fun l=>exN 14 7 l) (XV (hE.mono (by omega)) (hk a (by simp)) (hk b (by simp))))
 · simp [nmB,nuB,nsB,asB,nkB] at hnm hnu hns has hnk
   subst hnm hns has hnk
   show Rd N (I8 E) _ ((4,[116,105,99,107])::(5,[40])::(Tm u++[(5,[41])])) _
   unfold I8
   iterate 3 refine Rd.C2 (fun k _=>by simp [hdK]) ?_
   iterate 4 refine Rd.BZ (fun k _=>by simp [hdT]) ?_
   refine Rd.CO 4 (Rd.C0 (K1:=fun _=>True) (Rd.exp 5) (Rd.bind (K1:=fun _=>True) (a:=u) ?_ (Rd.C0 (K1:=fun _=>True) (Rd.exp 5) (Rd.pure _) (fun _ _=>trivial)) (fun _ _=>trivial)) (fun _ _=>trivial))
   unfold Tm
   split
   · have e1:u=-((u.natAbs:Nat):Int):=by omega
     refine Rd.CO 5 ?_
     have:=Rd.map (K:=fun _=>True) (fun n=>-n) (bJ (N:=N - 1 - 1 - 1) (n:=u.natAbs) (by omega))
     rw [← e1] at this
     exact this
   · have e1:u=((u.toNat:Nat):Int):=by omega
     refine Rd.BZ (fun k _=>Nx (xY _) (by decide)) ?_
     have:=bJ (N:=N - 1 - 1) (K:=fun _=>True) (n:=u.toNat) (by omega)
     rw [← e1] at this
     exact this
 · simp [nmB,nuB,nsB,asB,nkB] at hnm hnu hns has hnk
   subst hnm hnu hns has
   obtain ⟨a,rfl⟩:=Wi hnk
   unfold I8
   iterate 3 refine Rd.C2 (fun k _=>by simp [tkN,hdK]) ?_
   iterate 5 refine Rd.BZ (fun k _=>by simp [tkN,hdT]) ?_
   exact Rd.CO 4 (Rd.map (fun l=>exN 16 0 l) (U0 (hE.mono (by omega)) (hk a (by simp))))
 · simp [lvl] at hl
end Go.Ab
