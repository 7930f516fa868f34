/- Reading the tokens of a formatted text back, in plain data: types. Reading the tokens of a formatted text back, in plain data: expressions. Conditions: none. -/
import Derived.Test.YtifplkldbbcldaaGreatDoorXQi
set_option linter.unusedSimpArgs false
set_option linter.unusedVariables false
set_option maxRecDepth 4000
set_option maxHeartbeats 8000000
open Bool renaming and_eq_true→AM,eq_false_iff→FN
open List renaming length→RB,all_eq_true→A6,append_assoc→AT,mem_cons_of_mem→Ah,map_append→Bj,map_cons→AF,map_nil→AI,contains_eq_mem→Dl,mem_cons_self→Aa,length_drop→Ai,drop_drop→CA,length_append→AA,append_nil→AY,length_cons→AD,length_pos_iff→Ar,cons_append→A0
open Nat renaming le_refl→A7,zero_le→CN
namespace Go.Ab
variable {N:Nat} {K:List KT→Prop}
def noP (k:List KT):Prop:=hdT k≠[40]
theorem eV:∀ {d:Nat} {t:TE},Bi d t=true→∃q x l,Hq t=(q,x)::l∧x≠[41]
 |0,.mk ..,h=>by cases h
 |d+1,.mk k n l,h=>by
  rw [Bi,AM] at h
  have h1:=h.1
  rw [Hq,S8]
  rcases bP h1 with rfl|rfl|rfl|rfl|rfl|rfl|rfl|rfl|rfl
  · exact ⟨_,_,_,rfl,by decide⟩
  · exact ⟨_,_,_,rfl,by decide⟩
  · exact ⟨_,_,_,rfl,by decide⟩
  · simp [Cl] at h1;exact ⟨_,_,_,rfl,Nj (VU h1.1) (by decide)⟩
  · simp [Cl] at h1;exact ⟨_,_,_,rfl,Nj (kQ h1.1) (by decide)⟩
  · simp [Cl] at h1
    cases l with
    |nil=>simp at h1
    |cons a l=>exact ⟨_,_,_,rfl,by decide⟩
  · exact ⟨_,_,_,rfl,by decide⟩
  · exact ⟨_,_,_,rfl,by decide⟩
  · exact ⟨_,_,_,rfl,by decide⟩
theorem gK {q:Int} {x:Str} {l:List KT} {ks:List KT} (h:ks=(q,x)::l) (k:List KT):hdT (ks++k)=x∧hdK (ks++k)=q:=by
 subst h;exact ⟨rfl,rfl⟩
theorem UH {α:Type} {m:PM α} {a:α} {q:Int} {x:Str} {l ks:List KT} (h:ks=(q,x)::l):Rd 0 m a ks K:=fun r p k h1 _ hs _=>by
 have:=congrArg RB hs
 rw [PE,h] at this
 simp at this;omega
theorem Ie {α:Type} {m:PM α} {a:α} {ks:List KT} (h:ks≠[]):Rd 0 m a ks K:=by
 cases ks with
 |nil=>exact absurd rfl h
 |cons x l=>exact UH (q:=x.1) (x:=x.2) (l:=l) rfl
theorem SY (x y:List KT) (l:List (List KT)):cmK (x::y::l)=x++((5,[44])::cmK (y::l)):=by
 unfold cmK;rw [aP];rfl
theorem UW (x:List KT):cmK [x]=x:=jX _ x
theorem oD:∀(d:Nat) (t:TE),Bi d t=true→∀n N,N≤n→Rd N (Fg n) t (Hq t) noP
 |0,.mk ..,h,_,_,_=>by cases h
 |d+1,.mk k nm l,h,0,N,hN=>by
  obtain ⟨q,x,r,e,_⟩:=eV h
  have:N=0:=by omega
  subst this
  exact UH e
 |d+1,.mk k nm l,h,n+1,N,hN=>by
  rw [Bi,AM,A6] at h
  obtain ⟨h1,h2⟩:=h
  have ih:=fun x (hx:x∈l) M (hM:M+1≤N)=>oD d x (h2 x hx) n M (by omega)
  have h5:∀k:List KT,noP ((5,[44])::k):=fun k=>by simp [noP,hdT]
  have h6:∀k:List KT,noP ((5,[41])::k):=fun k=>by simp [noP,hdT]
  rw [Fg,Hq,S8]
  rcases bP h1 with rfl|rfl|rfl|rfl|rfl|rfl|rfl|rfl|rfl
  · simp [Cl] at h1
    obtain ⟨rfl,rfl⟩:=h1
    exact Rd.CY (fun k _=>by simp [NG,hdK]) (Rd.CY (fun k _=>by simp [NG,hdK]) (Rd.CL 4 (Rd.pure _)))
  · simp [Cl] at h1
    obtain ⟨rfl,rfl⟩:=h1
    exact Rd.CY (fun k _=>by simp [NG,hdK]) (Rd.CY (fun k _=>by simp [NG,hdK]) (Rd.BW (fun k _=>by simp [NG,hdT]) (Rd.CL 4 (Rd.pure _))))
  · simp [Cl] at h1
    obtain ⟨rfl,rfl⟩:=h1
    exact Rd.CY (fun k _=>by simp [NG,hdK]) (Rd.CY (fun k _=>by simp [NG,hdK]) (Rd.BW (fun k _=>by simp [NG,hdT]) (Rd.BW (fun k _=>by simp [NG,hdT]) (Rd.CL 4 (Rd.pure _)))))
  · simp [Cl] at h1
    obtain ⟨h1,rfl⟩:=h1
    exact Rd.Xi (Rd.map (fun x=>TE.mk 4 x []) (Rd.take nm))
  · exact Rd.CY (fun k _=>by simp [NG,hdK]) (Rd.Xi (Rd.CW (K1:=fun _=>True) (Rd.take nm) (Rd.map (fun l=>TE.mk 5 nm l) ((Wt (N:=N - 1) h5 h6 l (fun x hx M hM=>ih x hx M (by omega))).imp (fun k hk _=>hk))) (fun _ _=>trivial)))
  · simp [Cl] at h1
    match l,h1,h2,ih with
    |a::b::l,h1,h2,ih=>
     have hs:NG 6 nm ((a::b::l).map Hq)=(5,[40])::(Hq a++((5,[44])::(cmK ((b::l).map Hq)++[(5,[41])]))):=by
      show Hn (cmK (Hq a::Hq b::l.map Hq))=_
      rw [SY,Hn,AT];rfl
     rw [hs,h1.1.1]
     refine Rd.CY (fun k _=>by simp [hdK]) (Rd.CY (fun k _=>by simp [hdK]) (Rd.BW (fun k _=>by simp [hdT]) (Rd.BW (fun k _=>by simp [hdT]) (Rd.BW (fun k _=>by simp [hdT]) (Rd.BW (fun k _=>by simp [hdT]) (Rd.BW (fun k _=>by simp [hdT]) (Rd.CL 5 ?_)))))))
     by_cases hN0:N=0
     · subst hN0
       obtain ⟨q,x,r,e,_⟩:=eV (h2 a (by simp))
       refine UH (q:=q) (x:=x) (l:=r++((5,[44])::(cmK ((b::l).map Hq)++[(5,[41])]))) ?_
       rw [e];rfl
     · exact Rd.bind (ih a (by simp) (N - 1) (by omega)) (Rd.CW (K1:=fun _=>True) (Rd.exp 5) (Rd.map (fun l=>TE.mk 6 [] (a::l)) (OO h5 h6 (by simp) (fun x hx M hM=>ih x (Ah _ hx) M (by omega)))) (fun _ _=>trivial)) (fun k _=>h5 _)
  · simp [Cl] at h1
    obtain ⟨rfl,hl⟩:=h1
    obtain ⟨a,rfl⟩:=WT hl
    have hs:NG 7 [] ([a].map Hq)=(4,[97,114,114,97,121])::(5,[40])::(Hq a++[(5,[41])]):=by
     show (4,[97,114,114,97,121])::Hn (cmK [Hq a])=_
     rw [UW];rfl
    rw [hs]
    refine Rd.CY (fun k _=>by simp [hdK]) (Rd.CY (fun k _=>by simp [hdK]) (Rd.BW (fun k _=>by simp [hdT]) (Rd.BW (fun k _=>by simp [hdT]) (Rd.BW (fun k _=>by simp [hdT]) (Rd.CL 4 (Rd.CW (K1:=fun _=>True) (Rd.exp 5) ?_ (fun _ _=>trivial)))))))
    by_cases hN0:N=0
    · subst hN0
      obtain ⟨q,x,r,e,_⟩:=eV (h2 a (by simp))
      exact UH (by rw [e];rfl)
    · exact Rd.bind (ih a (by simp) (N - 1 - 1) (by omega)) (Rd.CW (K1:=fun _=>True) (Rd.exp 5) (Rd.pure _) (fun _ _=>trivial)) (fun k _=>h6 _)
  · simp [Cl] at h1
    obtain ⟨rfl,hl⟩:=h1
    obtain ⟨a,rfl⟩:=WT hl
    have hs:NG 8 [] ([a].map Hq)=(4,[114,101,102])::(5,[40])::(Hq a++[(5,[41])]):=by
     show (4,[114,101,102])::Hn (cmK [Hq a])=_
     rw [UW];rfl
    rw [hs]
    refine Rd.CY (fun k _=>by simp [hdK]) (Rd.CY (fun k _=>by simp [hdK]) (Rd.BW (fun k _=>by simp [hdT]) (Rd.BW (fun k _=>by simp [hdT]) (Rd.BW (fun k _=>by simp [hdT]) (Rd.BW (fun k _=>by simp [hdT]) (Rd.CL 4 (Rd.CW (K1:=fun _=>True) (Rd.exp 5) ?_ (fun _ _=>trivial))))))))
    by_cases hN0:N=0
    · subst hN0
      obtain ⟨q,x,r,e,_⟩:=eV (h2 a (by simp))
      exact UH (by rw [e];rfl)
    · exact Rd.bind (ih a (by simp) (N - 1 - 1) (by omega)) (Rd.CW (K1:=fun _=>True) (Rd.exp 5) (Rd.pure _) (fun _ _=>trivial)) (fun k _=>h6 _)
  · simp [Cl] at h1
    obtain ⟨⟨rfl,hl⟩,_⟩:=h1
    obtain ⟨m,x,rfl⟩:=To hl
    have hs:NG 9 [] ((m++[x]).map Hq)=(4,[102,110])::(5,[40])::((cmK (m.map Hq)++[(5,[41])])++((5,[45,62])::Hq x)):=by
     show (4,[102,110])::(L4 ((m++[x]).map Hq).dropLast++((5,[45,62])::((m++[x]).map Hq).getLastD []))=_
     simp only [Bj,AF,AI,List.dropLast_concat,List.getLastD_concat]
     rfl
    rw [hs]
    refine Rd.CY (fun k _=>by simp [hdK]) (Rd.CY (fun k _=>by simp [hdK]) (Rd.BW (fun k _=>by simp [hdT]) (Rd.BW (fun k _=>by simp [hdT]) (Rd.BW (fun k _=>by simp [hdT]) (Rd.BW (fun k _=>by simp [hdT]) (Rd.BW (fun k _=>by simp [hdT]) (Rd.BW (fun k _=>by simp [hdT]) (Rd.CL 4 (Rd.CW (K1:=fun _=>True) (Rd.exp 5) ?_ (fun _ _=>trivial))))))))))
    by_cases hN0:N=0
    · subst hN0
      exact Ie (by simp)
    · refine Rd.bind (K1:=fun _=>True) (Zx h5 h6 m (fun y hy M hM=>ih y (List.mem_append_left _ hy) M (by omega)) (fun y hy k=>?_)) (Rd.CW (K1:=fun _=>True) (Rd.exp 5) (Rd.map (fun t=>TE.mk 9 [] (m++[t])) (ih x (by simp) _ (by omega))) (fun _ _=>trivial)) (fun _ _=>trivial)
      obtain ⟨q,z,r,e,hz⟩:=eV (h2 y (List.mem_append_left _ hy))
      rw [(gK e k).1];exact hz
theorem wO {c:CE} (h:RT c=true) (hN:N≤BF):Rd N dT c (tkC c) noP:=by
 simp only [RT,AM,A6] at h
 refine Rd.CW (K1:=fun _=>True) (Rd.take c.name) (Rd.map (fun l=>CE.mk c.name l) ((Wt (Kr:=noP) (fun k=>by simp [noP,hdT]) (fun k=>by simp [noP,hdT]) c.args (fun x hx M hM=>oD 40 x (h.2 x hx) BF M (by omega))).imp (fun k hk _=>hk))) (fun _ _=>trivial)
theorem sG {d:DE} (h:G6 d=true) (hN:N≤BF):Rd N TZ d ((2,d.name)::(Ui (d.vars.map fun s=>[(1,s)])++((5,[61])::([((5:Int),[124])].intercalate (d.cons.map tkC)++[(5,[59])])))) K:=by
 simp only [G6,AM,A6,decide_eq_true_eq] at h
 obtain ⟨⟨⟨⟨⟨h1,h2⟩,h3⟩,h4⟩,h5⟩,h6⟩:=h
 have hne:d.cons≠[]:=by intro e;rw [e] at h4;simp at h4
 refine Rd.CW (K1:=fun _=>True) (Rd.take d.name) (Rd.bind (Wt (Kr:=fun _=>True) (g:=fun s=>[(1,s)]) (fun _=>trivial) (fun _=>trivial) d.vars (fun s hs M _=>Rd.take s)) (Rd.CW (K1:=fun _=>True) (Rd.exp 5) (Rd.bind (Ws (g:=tkC) (Kr:=noP) (fun k=>by simp [noP,hdT]) hne (fun c hc M hM=>wO (h6 c hc) (by omega))) (Rd.CW (K1:=fun _=>True) (Rd.exp 5) (Rd.pure _) (fun _ _=>trivial)) (fun k _=>⟨by simp [noP,hdT],by simp [hdT]⟩)) (fun _ _=>trivial)) (fun k _ _=>by simp [hdT])) (fun _ _=>trivial)
end Go.Ab
namespace Go.Ab
variable {N:Nat} {K:List KT→Prop}
def opens:List Str:=[[108,101,116],[105,102],[109,97,116,99,104],[102,110],[116,114,121]]
def F4 (ks:List KT) (b:Prop):Prop:=∃q x l,ks=(q,x)::l∧x≠[41]∧(b→opens.contains x=false)
theorem AA3 {x:Str} {l:List Str} (h:Ni x=false) (hl:l.all Ni=true):l.contains x=false:=by
 rw [FN]
 intro hc
 have hm:x∈l:=by simpa [Dl] using hc
 have:=A6.1 hl x hm
 rw [h] at this;cases this
theorem wI (n:Nat):Ni (Lib.decDigits n)=false:=by
 rw [FN]
 intro hw
 obtain ⟨b,l,e,_,h,_⟩:=S9 hw
 have:=gD n b (by rw [e];exact Aa ..)
 simp only [CH] at this
 rw [h] at this;cases this
theorem F4.par {t:List KT} {b:Prop}:F4 (Hn t) b:=⟨_,_,_,rfl,by decide,fun _=>by decide⟩
theorem F4.app {t k:List KT} {b:Prop} (h:F4 t b):F4 (t++k) b:=by
 obtain ⟨q,x,l,rfl,h1,h2⟩:=h
 exact ⟨q,x,l++k,rfl,h1,h2⟩
theorem F4.c {q:Int} {x:Str} {l:List KT} {b:Prop} (h1:x≠[41]) (h2:b→opens.contains x=false):F4 ((q,x)::l) b:=⟨q,x,l,rfl,h1,h2⟩
theorem F4.w {q:Int} {x:Str} {l:List KT} {b:Prop} (h:Ni x=false):F4 ((q,x)::l) b:=⟨q,x,l,rfl,Nj h (by decide),fun _=>AA3 h (by decide)⟩
theorem F4.plK {d:Nat} {e:Ex} {t:List KT} (hd:1≤d) (h:F4 t (1≤lvl e)) {b:Prop}:F4 (plK d e t) b:=by
 unfold Ab.plK
 split
 · exact F4.par
 · rename_i hl
   obtain ⟨q,x,l,e1,h1,h2⟩:=h
   exact ⟨q,x,l,e1,h1,fun _=>h2 (by omega)⟩
theorem dS (u:Int):1≤E7 u:=by
 unfold E7;split
 · omega
 · split<;>omega
theorem wD:∀(s:Nat) (e:Ex),e.size≤s→e.nb→F4 (tkE e) (1≤lvl e)
 |0,e,hs,_=>by have:=e.size_pos;omega
 |s+1,.mk o n u ns ks al,hs,h=>by
  rw [Ex.nb,Ex.Nb] at h
  obtain ⟨hn,hk,_⟩:=h
  have ih:∀x∈ks,F4 (tkE x) (1≤lvl x):=fun x hx=>wD s x (by have:=Ex.Rq hx;simp only [Ex.size] at hs;omega) (hk x hx)
  simp only [GM,AM] at hn
  obtain ⟨⟨⟨⟨hnm,hnu⟩,hns⟩,has⟩,hnk⟩:=hn
  rw [tkE,NF,ND]
  rcases kB hnk with rfl|rfl|rfl|rfl|rfl|rfl|rfl|rfl|rfl|rfl|rfl|rfl|rfl|rfl|rfl|rfl|rfl
  · exact F4.c (by decide) (fun _=>by decide)
  · show F4 (if u=1 then [(4,[116,114,117,101])] else [(4,[102,97,108,115,101])]) _
    split
    · exact F4.c (by decide) (fun _=>by decide)
    · exact F4.c (by decide) (fun _=>by decide)
  · show F4 (T3 u) _
    unfold T3
    split
    · exact F4.c (by decide) (fun _=>by decide)
    · exact F4.w (wI _)
  · exact F4.w (VU (by simpa [nmB] using hnm))
  · exact F4.par
  · exact F4.w (kQ (by simpa [nmB] using hnm))
  · exact F4.c (by decide) (fun hl=>by simp [lvl] at hl)
  · exact F4.c (by decide) (fun hl=>by simp [lvl] at hl)
  · exact F4.c (by decide) (fun hl=>by simp [lvl] at hl)
  · exact F4.c (by decide) (fun hl=>by simp [lvl] at hl)
  · exact F4.c (by decide) (fun hl=>by simp [lvl] at hl)
  · cases ks with
    |nil=>simp [nkB] at hnk
    |cons f l=>
     show F4 ((if M2 f then Hn (tkE f) else plK 4 f (tkE f))++L4 (l.map tkE)) _
     refine F4.app ?_
     split
     · exact F4.par
     · exact F4.plK (by omega) (ih f (by simp))
  · obtain ⟨a,b,rfl⟩:=Sn (by simpa [nkB] using hnk)
    exact (F4.plK (by have:=dS u;split<;>omega) (ih a (by simp))).app
  · show F4 ((4,prT u)::L4 (ks.map tkE)) _
    unfold prT
    repeat' split
    all_goals exact F4.c (by decide) (fun _=>by decide)
  · exact F4.c (by decide) (fun _=>by decide)
  · exact F4.c (by decide) (fun _=>by decide)
  · exact F4.c (by decide) (fun hl=>by simp [lvl] at hl)
theorem xP {e:Ex} (h:e.nb):F4 (tkE e) (1≤lvl e):=wD e.size e (A7 _) h
theorem pF {e:Ex} (h:e.nb) (k:List KT):hdT (tkE e++k)≠[41]:=by
 obtain ⟨q,x,l,e1,h1,_⟩:=xP h
 rw [(gK e1 k).1];exact h1
theorem jU {e:Ex} (h:e.nb):tkE e≠[]:=by
 obtain ⟨q,x,l,e1,_⟩:=xP h
 rw [e1];simp
def Gs (N:Nat) (m m':PM Ex) (ks:List KT) (K:List KT→Prop):Prop:=
 ∀r p k,r.length≤N→r.length≤17000→strip r=ks++k→K k→m.run ⟨r,false,p⟩=m'.run ⟨r.drop ks.length,false,p⟩
theorem Gs.refl (m:PM Ex):Gs N m m [] K:=fun _ _ _ _ _ _ _=>rfl
theorem Gs.bind {α:Type} {m:PM α} {f:α→PM Ex} {m':PM Ex} {a:α} {k1 k2:List KT} {K1:List KT→Prop} (h1:Rd N m a k1 K1) (h2:Gs (N - k1.length) (f a) m' k2 K) (hK:∀k,K k→K1 (k2++k)):Gs N (m.bind f) m' (k1++k2) K:=fun r p k hN hL hs hk=>by
 rw [AT] at hs
 have e1:=h1 r p (k2++k) hN hL hs (hK k hk)
 have e2:=h2 (r.drop k1.length) p k (by rw [Ai];omega) (by rw [Ai];omega) (KJ hs) hk
 show (f (m.run ⟨r,false,p⟩).1).run (m.run ⟨r,false,p⟩).2=_
 rw [e1]
 show (f a).run ⟨r.drop k1.length,false,p⟩=_
 rw [e2,CA,AA]
theorem Gs.last {α:Type} {m:PM α} {f:α→PM Ex} {a:α} {k1:List KT} (h1:Rd N m a k1 K):Gs N (m.bind f) (f a) k1 K:=by
 have:=Gs.bind (m':=f a) (K:=K) h1 (Gs.refl (f a)) (fun k h=>h)
 rwa [AY] at this
theorem Gs.CL {t:Str} {ht:t≠[]} {y n m':PM Ex} {ks:List KT} (q:Int) (h:Gs (N - 1) y m' ks K):Gs N (.acc t ht y n) m' ((q,t)::ks) K:=fun r p k hN hL hs hk=>by
 have hh:=(GX hs).1
 rw [qU (by rw [hh];simp [hdT])]
 have e:=h r.tail p k (by rw [List.length_tail];omega) (by rw [List.length_tail];omega) (by have:=KJ (ks:=[(q,t)]) hs;simpa using this) hk
 rw [e,AD,← List.drop_one,CA,Nat.add_comm]
theorem Gs.BW {t:Str} {ht:t≠[]} {y n m':PM Ex} {ks:List KT} (hn:∀k,K k→hdT (ks++k)≠t) (h:Gs N n m' ks K):Gs N (.acc t ht y n) m' ks K:=fun r p k hN hL hs hk=>by
 have hh:=(GX hs).1
 rw [Ru (by rw [hh];simpa using hn k hk)]
 exact h r p k hN hL hs hk
theorem Ac.of {m:PM Ex} {c:Nat→Ex→PM Ex} {e:Ex} {ks:List KT} (h:Rd N m e ks K):Ac N (m.bind fun a=>c BF a) c e ks K:=⟨0,CN _,Gs.last (f:=fun a=>c BF a) h⟩
theorem Ac.step {m:PM Ex} {c:Nat→Ex→PM Ex} {a e:Ex} {k1 k2:List KT} {K1:List KT→Prop} (h1:Ac N m c a k1 K1) (h2:∀n,Gs (N - k1.length) (c (n+1) a) (c n e) k2 K) (hk2:k2≠[]) (hK:∀k,K k→K1 (k2++k)):Ac N m c e (k1++k2) K:=by
 obtain ⟨j,hj,h1⟩:=h1
 have hl2:1≤k2.length:=Ar.2 hk2
 refine ⟨j+1,by rw [AA];omega,fun r p k hN hL hs hk=>?_⟩
 have hsl:=congrArg RB hs
 rw [PE,AA,AA] at hsl
 rw [AT] at hs
 have e1:=h1 r p (k2++k) hN hL hs (hK k hk)
 have hf:=FZ
 have e2:=h2 (BF - (j+1)) (r.drop k1.length) p k (by rw [Ai];omega) (by rw [Ai];omega) (KJ hs) hk
 rw [e1,show BF - j=BF - (j+1)+1 by omega,e2,CA,AA]
theorem Ac.fin {m:PM Ex} {c:Nat→Ex→PM Ex} {e:Ex} {ks:List KT} {K':List KT→Prop} (h:Ac N m c e ks K) (hK:∀k,K' k→K k) (hc:∀n r p,K' (strip r)→(c n e).run ⟨r,false,p⟩=(e,⟨r,false,p⟩)):Rd N m e ks K':=by
 obtain ⟨j,_,h⟩:=h
 intro r p k hN hL hs hk
 rw [h r p k hN hL hs (hK k hk)]
 exact hc _ _ _ (by rw [KJ hs];exact hk)
theorem Ac.imp {m:PM Ex} {c:Nat→Ex→PM Ex} {e:Ex} {ks:List KT} {K':List KT→Prop} (h:Ac N m c e ks K) (hK:∀k,K' k→K k):Ac N m c e ks K':=by
 obtain ⟨j,hj,h⟩:=h
 exact ⟨j,hj,fun r p k hN hL hs hk=>h r p k hN hL hs (hK k hk)⟩
theorem Nx {l:List Str} {k:List KT} (h:noT l k) {t:Str} (ht:l.contains t=true):hdT k≠t:=fun e=>by
 unfold noT at h;rw [e,ht] at h;cases h
theorem O0 (r:List Tok):(r.headD Tz).text=hdT (strip r):=(GX rfl).1
theorem ZR {E:PM Ex}:∀n e r p,hdT (strip r)≠[40]→(T8 E n e).run ⟨r,false,p⟩=(e,⟨r,false,p⟩)
 |0,e,r,p,_=>rfl
 |n+1,e,r,p,h=>by
  rw [T8,Ru (by rw [O0];simpa using h)];rfl
def sPr:List Str:=[[40],[42],[47],[37]]
def sSu:List Str:=[[40],[42],[47],[37],[43],[45]]
def sEx:List Str:=[[40],[42],[47],[37],[43],[45],[60],[60,61],[61,61]]
theorem Ug {l m:List Str} (hs:m.all (fun t=>l.contains t)=true) {k:List KT} (h:noT l k):noT m k:=by
 unfold noT at h ⊢
 rw [FN] at h ⊢
 intro hc
 have hm:hdT k∈m:=by simpa [Dl] using hc
 exact h (A6.1 hs _ hm)
theorem Xx {E:PM Ex}:∀n e r p,noT sPr (strip r)→(Jn E n e).run ⟨r,false,p⟩=(e,⟨r,false,p⟩)
 |0,e,r,p,_=>rfl
 |n+1,e,r,p,h=>by
  rw [Jn,Ru (by rw [O0];simpa using Nx h (t:=[42]) (by decide)),Ru (by rw [O0];simpa using Nx h (t:=[47]) (by decide)),Ru (by rw [O0];simpa using Nx h (t:=[37]) (by decide))];rfl
theorem nU {E:PM Ex}:∀n e r p,noT sSu (strip r)→(Sv E n e).run ⟨r,false,p⟩=(e,⟨r,false,p⟩)
 |0,e,r,p,_=>rfl
 |n+1,e,r,p,h=>by
  rw [Sv,Ru (by rw [O0];simpa using Nx h (t:=[43]) (by decide)),Ru (by rw [O0];simpa using Nx h (t:=[45]) (by decide))];rfl
def HE (E:PM Ex) (N:Nat):Prop:=∀x:Ex,x.nb→∀M,M+1≤N→Rd M E x (tkE x) (noT sEx)
theorem HE.mono {E:PM Ex} {M:Nat} (h:HE E N) (hM:M≤N):HE E M:=fun x hx M' h'=>h x hx M' (by omega)
theorem YD (k:List KT):noT sEx ((5,[41])::k):=by show sEx.contains [41]=false;decide
theorem XX (k:List KT):noT sEx ((5,[44])::k):=by show sEx.contains [44]=false;decide
theorem Wu {E:PM Ex} (hE:HE E N) {e:Ex} (h:e.nb):Rd N (IY E) e (Hn (tkE e)) K:=by
 by_cases hN:N=0
 · subst hN;exact Ie (by simp [Hn])
 unfold Hn IY
 iterate 3 refine Rd.CY (fun k _=>by simp [hdK]) ?_
 iterate 3 refine Rd.BW (fun k _=>by simp [hdT]) ?_
 refine Rd.CL 5 ?_
 unfold bG
 refine Rd.BW (fun k _=>by rw [AT];exact pF h _) ?_
 exact Rd.bind (hE e h (N - 1) (by omega)) (Rd.CL 5 (Rd.pure e)) (fun k _=>YD k)
theorem bB {o u:Int} {n:Str} {ns:List Str} {ks:List Ex} {al:List Al} (h:(Ex.mk o n u ns ks al).nb):nmB o n=true∧nuB o u=true∧nsB o ns=true∧asB o al=true∧nkB o u ks.length=true∧(∀x∈ks,x.nb)∧∀a∈al,a.nb:=by
 rw [Ex.nb,Ex.Nb,Al.Nb] at h
 obtain ⟨hn,hk,ha⟩:=h
 simp only [GM,AM] at hn
 obtain ⟨⟨⟨⟨hnm,hnu⟩,hns⟩,has⟩,hnk⟩:=hn
 exact ⟨hnm,hnu,hns,has,hnk,hk,ha⟩
theorem UG {E:PM Ex} (hE:HE E N) {a:Ex} (h:a.nb):Rd N (Nz E) [a] (L4 [tkE a]) K:=by
 unfold L4;rw [UW];unfold Hn Nz
 by_cases hN:N=0
 · subst hN;exact Ie (by simp)
 exact Rd.CW (K1:=fun _=>True) (Rd.exp 5) (Rd.bind (hE a h _ (by omega)) (Rd.CW (K1:=fun _=>True) (Rd.exp 5) (Rd.pure _) (fun _ _=>trivial)) (fun k _=>YD k)) (fun _ _=>trivial)
theorem Wr {E:PM Ex} (hE:HE E N) {a b:Ex} (h:a.nb) (h2:b.nb):Rd N (Rs E) [a,b] (L4 [tkE a,tkE b]) K:=by
 unfold L4;rw [SY,UW];unfold Hn Rs
 by_cases hN:N=0
 · subst hN;exact Ie (by simp)
 rw [AT,A0]
 exact Rd.CW (K1:=fun _=>True) (Rd.exp 5) (Rd.bind (hE a h _ (by omega)) (Rd.CW (K1:=fun _=>True) (Rd.exp 5) (Rd.bind (hE b h2 _ (by omega)) (Rd.CW (K1:=fun _=>True) (Rd.exp 5) (Rd.pure _) (fun _ _=>trivial)) (fun k _=>YD k)) (fun _ _=>trivial)) (fun k _=>XX _)) (fun _ _=>trivial)
theorem oC {E:PM Ex} (hE:HE E N) {a b c:Ex} (h:a.nb) (h2:b.nb) (h3:c.nb):Rd N (bF E) [a,b,c] (L4 [tkE a,tkE b,tkE c]) K:=by
 unfold L4;rw [SY,SY,UW];unfold Hn bF
 by_cases hN:N=0
 · subst hN;exact Ie (by simp)
 rw [AT,A0,AT,A0]
 exact Rd.CW (K1:=fun _=>True) (Rd.exp 5) (Rd.bind (hE a h _ (by omega)) (Rd.CW (K1:=fun _=>True) (Rd.exp 5) (Rd.bind (hE b h2 _ (by omega)) (Rd.CW (K1:=fun _=>True) (Rd.exp 5) (Rd.bind (hE c h3 _ (by omega)) (Rd.CW (K1:=fun _=>True) (Rd.exp 5) (Rd.pure _) (fun _ _=>trivial)) (fun k _=>YD k)) (fun _ _=>trivial)) (fun k _=>XX _)) (fun _ _=>trivial)) (fun k _=>XX _)) (fun _ _=>trivial)
theorem Zy {n:Nat} (h:n≤1000000):Rd N JX (n:Int) [(3,Lib.decDigits n)] K:=by
 have:=Rd.map (N:=N) (K:=K) Qd (Rd.take (hq:=by decide) (q:=3) (Lib.decDigits n))
 rw [uN h] at this
 exact this
theorem sH {E:PM Ex} (hE:HE E N) {e:Ex} (h:e.nb) (hl:lvl e=5):Rd N (IY E) e (tkE e) (fun k=>M2 e=true→hdT k≠[40]):=by
 by_cases hN:N=0
 · subst hN;exact Ie (jU h)
 obtain ⟨o,n,u,ns,ks,al⟩:=e
 obtain ⟨hnm,hnu,hns,has,hnk,hk,-⟩:=bB h
 rw [tkE,NF,ND]
 rcases kB hnk with rfl|rfl|rfl|rfl|rfl|rfl|rfl|rfl|rfl|rfl|rfl|rfl|rfl|rfl|rfl|rfl|rfl
 · simp [nmB,nuB,nsB,asB,nkB] at hnm hnu hns has hnk
   subst hnm hnu hns has hnk
   unfold IY
   iterate 3 refine Rd.CY (fun k _=>by simp [tkN,hdK]) ?_
   iterate 3 refine Rd.BW (fun k _=>by simp [tkN,hdT]) ?_
   refine Rd.CL 5 ?_
   unfold bG
   exact Rd.CL 5 (Rd.pure _)
 · simp [nmB,nuB,nsB,asB,nkB] at hnm hnu hns has hnk
   subst hnm hns has hnk
   have hu:u=1∨u=0:=by omega
   unfold IY
   rcases hu with rfl|rfl
   · iterate 3 refine Rd.CY (fun k _=>by simp [tkN,hdK]) ?_
     iterate 1 refine Rd.BW (fun k _=>by simp [tkN,hdT]) ?_
     exact Rd.CL 4 (Rd.pure _)
   · iterate 3 refine Rd.CY (fun k _=>by simp [tkN,hdK]) ?_
     iterate 2 refine Rd.BW (fun k _=>by simp [tkN,hdT]) ?_
     exact Rd.CL 4 (Rd.pure _)
 · simp [nmB,nuB,nsB,asB,nkB] at hnm hnu hns has hnk
   subst hnm hns has hnk
   show Rd N (IY E) _ (T3 u) _
   unfold T3 IY
   split
   · rename_i hu
     iterate 3 refine Rd.CY (fun k _=>by simp [hdK]) ?_
     have e1:u=-((u.natAbs:Nat):Int):=by omega
     refine Rd.CL 5 ?_
     have:=Rd.map (K:=fun k=>M2 (.mk 3 [] u [] [] [])=true→hdT k≠[40]) (fun n=>exN 3 (-n) []) (Zy (N:=N - 1) (n:=u.natAbs) (by omega))
     rw [← e1] at this
     exact this
   · rename_i hu
     have e1:u=((u.toNat:Nat):Int):=by omega
     refine Rd.Xi ?_
     have:=Rd.map (K:=fun k=>M2 (.mk 3 [] u [] [] [])=true→hdT k≠[40]) (fun n=>exN 3 n []) (Zy (N:=N) (n:=u.toNat) (by omega))
     rw [← e1] at this
     exact this
 · simp [nmB,nuB,nsB,asB,nkB] at hnm hnu hns has hnk
   subst hnu hns has hnk
   unfold IY
   refine Rd.CY (fun k _=>by simp [tkN,hdK]) ?_
   exact Rd.Xi (Rd.map (fun x=>Ex.mk 4 x 0 [] [] []) (Rd.take n))
 · simp [nmB,nuB,nsB,asB,nkB] at hnm hnu hns has hnk
   subst hnm hnu hns has
   match ks,hnk,hk with
   |a::b::l,_,hk=>
    have hs:tkN 5 [] 0 [] (a::b::l) ((a::b::l).map tkE) ([].map tkA)=(5,[40])::(tkE a++((5,[44])::(cmK ((b::l).map tkE)++[(5,[41])]))):=by
     show Hn (cmK (tkE a::tkE b::l.map tkE))=_
     rw [SY,Hn,AT];rfl
    rw [hs]
    unfold IY
    iterate 3 refine Rd.CY (fun k _=>by simp [hdK]) ?_
    iterate 3 refine Rd.BW (fun k _=>by simp [hdT]) ?_
    refine Rd.CL 5 ?_
    unfold bG
    refine Rd.BW (fun k _=>by rw [AT];exact pF (hk a (by simp)) _) ?_
    refine Rd.bind (hE a (hk a (by simp)) _ (by omega)) (Rd.BW (fun k _=>by simp [hdT]) (Rd.CW (K1:=fun _=>True) (Rd.exp 5) (Rd.map (fun l=>exN 5 0 (a::l)) (OO (Kr:=noT sEx) XX YD (by simp) (fun x hx M hM=>hE x (hk x (Ah _ hx)) M (by omega)))) (fun _ _=>trivial))) (fun k _=>XX _)
 · simp [nmB,nuB,nsB,asB,nkB] at hnm hnu hns has hnk
   subst hnu hns has
   unfold IY
   iterate 2 refine Rd.CY (fun k _=>by simp [tkN,hdK]) ?_
   refine Rd.Xi (Rd.CW (K1:=fun _=>True) (Rd.take n) (Rd.map (fun l=>Ex.mk 6 n 0 [] l []) ((Wt (N:=N - 1) (Kr:=noT sEx) XX YD ks (fun x hx M hM=>hE x (hk x hx) M (by omega))).imp (fun k hb hks=>hb (by simp [M2,hks])))) (fun _ _=>trivial))
 · simp [lvl] at hl
 · simp [lvl] at hl
 · simp [lvl] at hl
 · simp [lvl] at hl
 · simp [lvl] at hl
 · simp [lvl] at hl
 · exfalso
   have:E7 u=5:=hl
   unfold E7 at this;split at this
   · omega
   · split at this<;>omega
 · simp [nmB,nuB,nsB,asB,nkB] at hnm hnu hns has hnk
   subst hnm hns has
   have hu:u=1∨u=2∨u=3∨u=4∨u=5∨u=6∨u=7:=by omega
   unfold IY
   rcases hu with rfl|rfl|rfl|rfl|rfl|rfl|rfl
   · obtain ⟨a,b,rfl⟩:=Sn (by simpa [HZ] using hnk)
     iterate 3 refine Rd.CY (fun k _=>by simp [tkN,prT,hdK]) ?_
     iterate 6 refine Rd.BW (fun k _=>by simp [tkN,prT,hdT]) ?_
     exact Rd.CL 4 (Rd.map (fun l=>exN 14 1 l) (Wr (hE.mono (by omega)) (hk a (by simp)) (hk b (by simp))))
   · obtain ⟨a,b,rfl⟩:=Sn (by simpa [HZ] using hnk)
     iterate 3 refine Rd.CY (fun k _=>by simp [tkN,prT,hdK]) ?_
     iterate 7 refine Rd.BW (fun k _=>by simp [tkN,prT,hdT]) ?_
     exact Rd.CL 4 (Rd.map (fun l=>exN 14 2 l) (Wr (hE.mono (by omega)) (hk a (by simp)) (hk b (by simp))))
   · obtain ⟨a,b,c,rfl⟩:=gY (by simpa [HZ] using hnk)
     iterate 3 refine Rd.CY (fun k _=>by simp [tkN,prT,hdK]) ?_
     iterate 8 refine Rd.BW (fun k _=>by simp [tkN,prT,hdT]) ?_
     exact Rd.CL 4 (Rd.map (fun l=>exN 14 3 l) (oC (hE.mono (by omega)) (hk a (by simp)) (hk b (by simp)) (hk c (by simp))))
   · obtain ⟨a,rfl⟩:=WT (by simpa [HZ] using hnk)
     iterate 3 refine Rd.CY (fun k _=>by simp [tkN,prT,hdK]) ?_
     iterate 9 refine Rd.BW (fun k _=>by simp [tkN,prT,hdT]) ?_
     exact Rd.CL 4 (Rd.map (fun l=>exN 14 4 l) (UG (hE.mono (by omega)) (hk a (by simp))))
   · obtain ⟨a,rfl⟩:=WT (by simpa [HZ] using hnk)
     iterate 3 refine Rd.CY (fun k _=>by simp [tkN,prT,hdK]) ?_
     iterate 10 refine Rd.BW (fun k _=>by simp [tkN,prT,hdT]) ?_
     exact Rd.CL 4 (Rd.map (fun l=>exN 14 5 l) (UG (hE.mono (by omega)) (hk a (by simp))))
   · obtain ⟨a,rfl⟩:=WT (by simpa [HZ] using hnk)
     iterate 3 refine Rd.CY (fun k _=>by simp [tkN,prT,hdK]) ?_
     iterate 11 refine Rd.BW (fun k _=>by simp [tkN,prT,hdT]) ?_
     exact Rd.CL 4 (Rd.map (fun l=>exN 14 6 l) (UG (hE.mono (by omega)) (hk a (by simp))))
   · obtain ⟨a,b,rfl⟩:=Sn (by simpa [HZ] using hnk)
     iterate 3 refine Rd.CY (fun k _=>by simp [tkN,prT,hdK]) ?_
     iterate 12 refine Rd.BW (fun k _=>by simp [tkN,prT,hdT]) ?_
     exact Rd.CL 4 (Rd.map (fun l=>exN 14 7 l) (Wr (hE.mono (by omega)) (hk a (by simp)) (hk b (by simp))))
 · simp [nmB,nuB,nsB,asB,nkB] at hnm hnu hns has hnk
   subst hnm hns has hnk
   show Rd N (IY E) _ ((4,[116,105,99,107])::(5,[40])::(T3 u++[(5,[41])])) _
   unfold IY
   iterate 3 refine Rd.CY (fun k _=>by simp [hdK]) ?_
   iterate 4 refine Rd.BW (fun k _=>by simp [hdT]) ?_
   refine Rd.CL 4 (Rd.CW (K1:=fun _=>True) (Rd.exp 5) (Rd.bind (K1:=fun _=>True) (a:=u) ?_ (Rd.CW (K1:=fun _=>True) (Rd.exp 5) (Rd.pure _) (fun _ _=>trivial)) (fun _ _=>trivial)) (fun _ _=>trivial))
   unfold T3
   split
   · have e1:u=-((u.natAbs:Nat):Int):=by omega
     refine Rd.CL 5 ?_
     have:=Rd.map (K:=fun _=>True) (fun n=>-n) (Zy (N:=N - 1 - 1 - 1) (n:=u.natAbs) (by omega))
     rw [← e1] at this
     exact this
   · have e1:u=((u.toNat:Nat):Int):=by omega
     refine Rd.BW (fun k _=>Nj (wI _) (by decide)) ?_
     have:=Zy (N:=N - 1 - 1) (K:=fun _=>True) (n:=u.toNat) (by omega)
     rw [← e1] at this
     exact this
 · simp [nmB,nuB,nsB,asB,nkB] at hnm hnu hns has hnk
   subst hnm hnu hns has
   obtain ⟨a,rfl⟩:=WT hnk
   unfold IY
   iterate 3 refine Rd.CY (fun k _=>by simp [tkN,hdK]) ?_
   iterate 5 refine Rd.BW (fun k _=>by simp [tkN,hdT]) ?_
   exact Rd.CL 4 (Rd.map (fun l=>exN 16 0 l) (UG (hE.mono (by omega)) (hk a (by simp))))
 · simp [lvl] at hl
end Go.Ab
