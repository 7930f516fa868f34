/- Reading the tokens of a formatted text back, in plain data: types. Reading the tokens of a formatted text back, in plain data: expressions. Conditions: none. -/
import Derived.Test.YtifplkldbbcldaaGreatDoorXQi
set_option linter.unusedSimpArgs false
set_option linter.unusedVariables false
set_option maxRecDepth 4000
set_option maxHeartbeats 8000000
open Bool renaming and_eq_true→AN,eq_false_iff→F1
open List renaming length→Kd,all_eq_true→A7,append_assoc→AT,mem_cons_of_mem→Am,map_append→Bp,map_cons→AF,map_nil→AI,contains_eq_mem→Dx,mem_cons_self→Ah,length_drop→An,drop_drop→CJ,length_append→AA,append_nil→A1,length_cons→AB,length_pos_iff→Aq,cons_append→A0
open Nat renaming le_refl→A9,zero_le→CX
namespace Go.Ab
variable {N:Nat} {K:List KT→Prop}
def noP (k:List KT):Prop:=hdT k≠[40]
theorem jE:∀ {d:Nat} {t:TE},Bo d t=true→∃q x l,IF t=(q,x)::l∧x≠[41]
 |0,.mk ..,h=>by cases h
 |d+1,.mk k n l,h=>by
  rw [Bo,AN] at h
  have h1:=h.1
  rw [IF,TO]
  rcases eS h1 with rfl|rfl|rfl|rfl|rfl|rfl|rfl|rfl|rfl
  · exact ⟨_,_,_,rfl,by decide⟩
  · exact ⟨_,_,_,rfl,by decide⟩
  · exact ⟨_,_,_,rfl,by decide⟩
  · simp [Cv] at h1;exact ⟨_,_,_,rfl,OM (WL h1.1) (by decide)⟩
  · simp [Cv] at h1;exact ⟨_,_,_,rfl,OM (oM h1.1) (by decide)⟩
  · simp [Cv] at h1
    cases l with
    |nil=>simp at h1
    |cons a l=>exact ⟨_,_,_,rfl,by decide⟩
  · exact ⟨_,_,_,rfl,by decide⟩
  · exact ⟨_,_,_,rfl,by decide⟩
  · exact ⟨_,_,_,rfl,by decide⟩
theorem kH {q:Int} {x:Str} {l:List KT} {ks:List KT} (h:ks=(q,x)::l) (k:List KT):hdT (ks++k)=x∧hdK (ks++k)=q:=by
 subst h;exact ⟨rfl,rfl⟩
theorem Us {α:Type} {m:PM α} {a:α} {q:Int} {x:Str} {l ks:List KT} (h:ks=(q,x)::l):Rd 0 m a ks K:=fun r p k h1 _ hs _=>by
 have:=congrArg Kd hs
 rw [Pb,h] at this
 simp at this;omega
theorem Ix {α:Type} {m:PM α} {a:α} {ks:List KT} (h:ks≠[]):Rd 0 m a ks K:=by
 cases ks with
 |nil=>exact absurd rfl h
 |cons x l=>exact Us (q:=x.1) (x:=x.2) (l:=l) rfl
theorem TC (x y:List KT) (l:List (List KT)):cmK (x::y::l)=x++((5,[44])::cmK (y::l)):=by
 unfold cmK;rw [dT];rfl
theorem VH (x:List KT):cmK [x]=x:=nJ _ x
theorem r3:∀(d:Nat) (t:TE),Bo d t=true→∀n N,N≤n→Rd N (Fy n) t (IF t) noP
 |0,.mk ..,h,_,_,_=>by cases h
 |d+1,.mk k nm l,h,0,N,hN=>by
  obtain ⟨q,x,r,e,_⟩:=jE h
  have:N=0:=by omega
  subst this
  exact Us e
 |d+1,.mk k nm l,h,n+1,N,hN=>by
  rw [Bo,AN,A7] at h
  obtain ⟨h1,h2⟩:=h
  have ih:=fun x (hx:x∈l) M (hM:M+1≤N)=>r3 d x (h2 x hx) n M (by omega)
  have h5:∀k:List KT,noP ((5,[44])::k):=fun k=>by simp [noP,hdT]
  have h6:∀k:List KT,noP ((5,[41])::k):=fun k=>by simp [noP,hdT]
  rw [Fy,IF,TO]
  rcases eS h1 with rfl|rfl|rfl|rfl|rfl|rfl|rfl|rfl|rfl
  · simp [Cv] at h1
    obtain ⟨rfl,rfl⟩:=h1
    exact Rd.C8 (fun k _=>by simp [N4,hdK]) (Rd.C8 (fun k _=>by simp [N4,hdK]) (Rd.CU 4 (Rd.pure _)))
  · simp [Cv] at h1
    obtain ⟨rfl,rfl⟩:=h1
    exact Rd.C8 (fun k _=>by simp [N4,hdK]) (Rd.C8 (fun k _=>by simp [N4,hdK]) (Rd.B2 (fun k _=>by simp [N4,hdT]) (Rd.CU 4 (Rd.pure _))))
  · simp [Cv] at h1
    obtain ⟨rfl,rfl⟩:=h1
    exact Rd.C8 (fun k _=>by simp [N4,hdK]) (Rd.C8 (fun k _=>by simp [N4,hdK]) (Rd.B2 (fun k _=>by simp [N4,hdT]) (Rd.B2 (fun k _=>by simp [N4,hdT]) (Rd.CU 4 (Rd.pure _)))))
  · simp [Cv] at h1
    obtain ⟨h1,rfl⟩:=h1
    exact Rd.Yl (Rd.map (fun x=>TE.mk 4 x []) (Rd.take nm))
  · exact Rd.C8 (fun k _=>by simp [N4,hdK]) (Rd.Yl (Rd.C6 (K1:=fun _=>True) (Rd.take nm) (Rd.map (fun l=>TE.mk 5 nm l) ((Xq (N:=N - 1) h5 h6 l (fun x hx M hM=>ih x hx M (by omega))).imp (fun k hk _=>hk))) (fun _ _=>trivial)))
  · simp [Cv] at h1
    match l,h1,h2,ih with
    |a::b::l,h1,h2,ih=>
     have hs:N4 6 nm ((a::b::l).map IF)=(5,[40])::(IF a++((5,[44])::(cmK ((b::l).map IF)++[(5,[41])]))):=by
      show IC (cmK (IF a::IF b::l.map IF))=_
      rw [TC,IC,AT];rfl
     rw [hs,h1.1.1]
     refine Rd.C8 (fun k _=>by simp [hdK]) (Rd.C8 (fun k _=>by simp [hdK]) (Rd.B2 (fun k _=>by simp [hdT]) (Rd.B2 (fun k _=>by simp [hdT]) (Rd.B2 (fun k _=>by simp [hdT]) (Rd.B2 (fun k _=>by simp [hdT]) (Rd.B2 (fun k _=>by simp [hdT]) (Rd.CU 5 ?_)))))))
     by_cases hN0:N=0
     · subst hN0
       obtain ⟨q,x,r,e,_⟩:=jE (h2 a (by simp))
       refine Us (q:=q) (x:=x) (l:=r++((5,[44])::(cmK ((b::l).map IF)++[(5,[41])]))) ?_
       rw [e];rfl
     · exact Rd.bind (ih a (by simp) (N - 1) (by omega)) (Rd.C6 (K1:=fun _=>True) (Rd.exp 5) (Rd.map (fun l=>TE.mk 6 [] (a::l)) (Oi h5 h6 (by simp) (fun x hx M hM=>ih x (Am _ hx) M (by omega)))) (fun _ _=>trivial)) (fun k _=>h5 _)
  · simp [Cv] at h1
    obtain ⟨rfl,hl⟩:=h1
    obtain ⟨a,rfl⟩:=Ub hl
    have hs:N4 7 [] ([a].map IF)=(4,[97,114,114,97,121])::(5,[40])::(IF a++[(5,[41])]):=by
     show (4,[97,114,114,97,121])::IC (cmK [IF a])=_
     rw [VH];rfl
    rw [hs]
    refine Rd.C8 (fun k _=>by simp [hdK]) (Rd.C8 (fun k _=>by simp [hdK]) (Rd.B2 (fun k _=>by simp [hdT]) (Rd.B2 (fun k _=>by simp [hdT]) (Rd.B2 (fun k _=>by simp [hdT]) (Rd.CU 4 (Rd.C6 (K1:=fun _=>True) (Rd.exp 5) ?_ (fun _ _=>trivial)))))))
    by_cases hN0:N=0
    · subst hN0
      obtain ⟨q,x,r,e,_⟩:=jE (h2 a (by simp))
      exact Us (by rw [e];rfl)
    · exact Rd.bind (ih a (by simp) (N - 1 - 1) (by omega)) (Rd.C6 (K1:=fun _=>True) (Rd.exp 5) (Rd.pure _) (fun _ _=>trivial)) (fun k _=>h6 _)
  · simp [Cv] at h1
    obtain ⟨rfl,hl⟩:=h1
    obtain ⟨a,rfl⟩:=Ub hl
    have hs:N4 8 [] ([a].map IF)=(4,[114,101,102])::(5,[40])::(IF a++[(5,[41])]):=by
     show (4,[114,101,102])::IC (cmK [IF a])=_
     rw [VH];rfl
    rw [hs]
    refine Rd.C8 (fun k _=>by simp [hdK]) (Rd.C8 (fun k _=>by simp [hdK]) (Rd.B2 (fun k _=>by simp [hdT]) (Rd.B2 (fun k _=>by simp [hdT]) (Rd.B2 (fun k _=>by simp [hdT]) (Rd.B2 (fun k _=>by simp [hdT]) (Rd.CU 4 (Rd.C6 (K1:=fun _=>True) (Rd.exp 5) ?_ (fun _ _=>trivial))))))))
    by_cases hN0:N=0
    · subst hN0
      obtain ⟨q,x,r,e,_⟩:=jE (h2 a (by simp))
      exact Us (by rw [e];rfl)
    · exact Rd.bind (ih a (by simp) (N - 1 - 1) (by omega)) (Rd.C6 (K1:=fun _=>True) (Rd.exp 5) (Rd.pure _) (fun _ _=>trivial)) (fun k _=>h6 _)
  · simp [Cv] at h1
    obtain ⟨⟨rfl,hl⟩,_⟩:=h1
    obtain ⟨m,x,rfl⟩:=Ua hl
    have hs:N4 9 [] ((m++[x]).map IF)=(4,[102,110])::(5,[40])::((cmK (m.map IF)++[(5,[41])])++((5,[45,62])::IF x)):=by
     show (4,[102,110])::(Lp ((m++[x]).map IF).dropLast++((5,[45,62])::((m++[x]).map IF).getLastD []))=_
     simp only [Bp,AF,AI,List.dropLast_concat,List.getLastD_concat]
     rfl
    rw [hs]
    refine Rd.C8 (fun k _=>by simp [hdK]) (Rd.C8 (fun k _=>by simp [hdK]) (Rd.B2 (fun k _=>by simp [hdT]) (Rd.B2 (fun k _=>by simp [hdT]) (Rd.B2 (fun k _=>by simp [hdT]) (Rd.B2 (fun k _=>by simp [hdT]) (Rd.B2 (fun k _=>by simp [hdT]) (Rd.B2 (fun k _=>by simp [hdT]) (Rd.CU 4 (Rd.C6 (K1:=fun _=>True) (Rd.exp 5) ?_ (fun _ _=>trivial))))))))))
    by_cases hN0:N=0
    · subst hN0
      exact Ix (by simp)
    · refine Rd.bind (K1:=fun _=>True) (c8 h5 h6 m (fun y hy M hM=>ih y (List.mem_append_left _ hy) M (by omega)) (fun y hy k=>?_)) (Rd.C6 (K1:=fun _=>True) (Rd.exp 5) (Rd.map (fun t=>TE.mk 9 [] (m++[t])) (ih x (by simp) _ (by omega))) (fun _ _=>trivial)) (fun _ _=>trivial)
      obtain ⟨q,z,r,e,hz⟩:=jE (h2 y (List.mem_append_left _ hy))
      rw [(kH e k).1];exact hz
theorem AAD {c:CE} (h:Ru c=true) (hN:N≤BK):Rd N hU c (tkC c) noP:=by
 simp only [Ru,AN,A7] at h
 refine Rd.C6 (K1:=fun _=>True) (Rd.take c.name) (Rd.map (fun l=>CE.mk c.name l) ((Xq (Kr:=noP) (fun k=>by simp [noP,hdT]) (fun k=>by simp [noP,hdT]) c.args (fun x hx M hM=>r3 40 x (h.2 x hx) BK M (by omega))).imp (fun k hk _=>hk))) (fun _ _=>trivial)
theorem wL {d:DE} (h:Gq d=true) (hN:N≤BK):Rd N UI d ((2,d.name)::(V6 (d.vars.map fun s=>[(1,s)])++((5,[61])::([((5:Int),[124])].intercalate (d.cons.map tkC)++[(5,[59])])))) K:=by
 simp only [Gq,AN,A7,decide_eq_true_eq] at h
 obtain ⟨⟨⟨⟨⟨h1,h2⟩,h3⟩,h4⟩,h5⟩,h6⟩:=h
 have hne:d.cons≠[]:=by intro e;rw [e] at h4;simp at h4
 refine Rd.C6 (K1:=fun _=>True) (Rd.take d.name) (Rd.bind (Xq (Kr:=fun _=>True) (g:=fun s=>[(1,s)]) (fun _=>trivial) (fun _=>trivial) d.vars (fun s hs M _=>Rd.take s)) (Rd.C6 (K1:=fun _=>True) (Rd.exp 5) (Rd.bind (Xp (g:=tkC) (Kr:=noP) (fun k=>by simp [noP,hdT]) hne (fun c hc M hM=>AAD (h6 c hc) (by omega))) (Rd.C6 (K1:=fun _=>True) (Rd.exp 5) (Rd.pure _) (fun _ _=>trivial)) (fun k _=>⟨by simp [noP,hdT],by simp [hdT]⟩)) (fun _ _=>trivial)) (fun k _ _=>by simp [hdT])) (fun _ _=>trivial)
end Go.Ab
namespace Go.Ab
variable {N:Nat} {K:List KT→Prop}
def opens:List Str:=[[108,101,116],[105,102],[109,97,116,99,104],[102,110],[116,114,121]]
def Fg (ks:List KT) (b:Prop):Prop:=∃q x l,ks=(q,x)::l∧x≠[41]∧(b→opens.contains x=false)
theorem AD6 {x:Str} {l:List Str} (h:OL x=false) (hl:l.all OL=true):l.contains x=false:=by
 rw [F1]
 intro hc
 have hm:x∈l:=by simpa [Dx] using hc
 have:=A7.1 hl x hm
 rw [h] at this;cases this
theorem z6 (n:Nat):OL (Lib.decDigits n)=false:=by
 rw [F1]
 intro hw
 obtain ⟨b,l,e,_,h,_⟩:=TQ hw
 have:=kB n b (by rw [e];exact Ah ..)
 simp only [CP] at this
 rw [h] at this;cases this
theorem Fg.par {t:List KT} {b:Prop}:Fg (IC t) b:=⟨_,_,_,rfl,by decide,fun _=>by decide⟩
theorem Fg.app {t k:List KT} {b:Prop} (h:Fg t b):Fg (t++k) b:=by
 obtain ⟨q,x,l,rfl,h1,h2⟩:=h
 exact ⟨q,x,l++k,rfl,h1,h2⟩
theorem Fg.c {q:Int} {x:Str} {l:List KT} {b:Prop} (h1:x≠[41]) (h2:b→opens.contains x=false):Fg ((q,x)::l) b:=⟨q,x,l,rfl,h1,h2⟩
theorem Fg.w {q:Int} {x:Str} {l:List KT} {b:Prop} (h:OL x=false):Fg ((q,x)::l) b:=⟨q,x,l,rfl,OM h (by decide),fun _=>AD6 h (by decide)⟩
theorem Fg.plK {d:Nat} {e:Ex} {t:List KT} (hd:1≤d) (h:Fg t (1≤lvl e)) {b:Prop}:Fg (plK d e t) b:=by
 unfold Ab.plK
 split
 · exact Fg.par
 · rename_i hl
   obtain ⟨q,x,l,e1,h1,h2⟩:=h
   exact ⟨q,x,l,e1,h1,fun _=>h2 (by omega)⟩
theorem hO (u:Int):1≤Cf u:=by
 unfold Cf;split
 · omega
 · split<;>omega
theorem zW:∀(s:Nat) (e:Ex),e.size≤s→e.nb→Fg (tkE e) (1≤lvl e)
 |0,e,hs,_=>by have:=e.size_pos;omega
 |s+1,.mk o n u ns ks al,hs,h=>by
  rw [Ex.nb,Ex.IP] at h
  obtain ⟨hn,hk,_⟩:=h
  have ih:∀x∈ks,Fg (tkE x) (1≤lvl x):=fun x hx=>zW s x (by have:=Ex.KS hx;simp only [Ex.size] at hs;omega) (hk x hx)
  simp only [Fi,AN] at hn
  obtain ⟨⟨⟨⟨hnm,hnu⟩,hns⟩,has⟩,hnk⟩:=hn
  rw [tkE,N3,N2]
  rcases cB hnk with rfl|rfl|rfl|rfl|rfl|rfl|rfl|rfl|rfl|rfl|rfl|rfl|rfl|rfl|rfl|rfl|rfl
  · exact Fg.c (by decide) (fun _=>by decide)
  · show Fg (if u=1 then [(4,[116,114,117,101])] else [(4,[102,97,108,115,101])]) _
    split
    · exact Fg.c (by decide) (fun _=>by decide)
    · exact Fg.c (by decide) (fun _=>by decide)
  · show Fg (UM u) _
    unfold UM
    split
    · exact Fg.c (by decide) (fun _=>by decide)
    · exact Fg.w (z6 _)
  · exact Fg.w (WL (by simpa [nmB] using hnm))
  · exact Fg.par
  · exact Fg.w (oM (by simpa [nmB] using hnm))
  · exact Fg.c (by decide) (fun hl=>by simp [lvl] at hl)
  · exact Fg.c (by decide) (fun hl=>by simp [lvl] at hl)
  · exact Fg.c (by decide) (fun hl=>by simp [lvl] at hl)
  · exact Fg.c (by decide) (fun hl=>by simp [lvl] at hl)
  · exact Fg.c (by decide) (fun hl=>by simp [lvl] at hl)
  · cases ks with
    |nil=>simp [nkB] at hnk
    |cons f l=>
     show Fg ((if H6 f then IC (tkE f) else plK 4 f (tkE f))++Lp (l.map tkE)) _
     refine Fg.app ?_
     split
     · exact Fg.par
     · exact Fg.plK (by omega) (ih f (by simp))
  · obtain ⟨a,b,rfl⟩:=OZ (by simpa [nkB] using hnk)
    exact (Fg.plK (by have:=hO u;split<;>omega) (ih a (by simp))).app
  · show Fg ((4,prT u)::Lp (ks.map tkE)) _
    unfold prT
    repeat' split
    all_goals exact Fg.c (by decide) (fun _=>by decide)
  · exact Fg.c (by decide) (fun _=>by decide)
  · exact Fg.c (by decide) (fun _=>by decide)
  · exact Fg.c (by decide) (fun hl=>by simp [lvl] at hl)
theorem AA6 {e:Ex} (h:e.nb):Fg (tkE e) (1≤lvl e):=zW e.size e (A9 _) h
theorem tB {e:Ex} (h:e.nb) (k:List KT):hdT (tkE e++k)≠[41]:=by
 obtain ⟨q,x,l,e1,h1,_⟩:=AA6 h
 rw [(kH e1 k).1];exact h1
theorem nE {e:Ex} (h:e.nb):tkE e≠[]:=by
 obtain ⟨q,x,l,e1,_⟩:=AA6 h
 rw [e1];simp
def Gs (N:Nat) (m m':PM Ex) (ks:List KT) (K:List KT→Prop):Prop:=
 ∀r p k,r.length≤N→r.length≤17000→strip r=ks++k→K k→m.run ⟨r,false,p⟩=m'.run ⟨r.drop ks.length,false,p⟩
theorem Gs.refl (m:PM Ex):Gs N m m [] K:=fun _ _ _ _ _ _ _=>rfl
theorem Gs.bind {α:Type} {m:PM α} {f:α→PM Ex} {m':PM Ex} {a:α} {k1 k2:List KT} {K1:List KT→Prop} (h1:Rd N m a k1 K1) (h2:Gs (N - k1.length) (f a) m' k2 K) (hK:∀k,K k→K1 (k2++k)):Gs N (m.bind f) m' (k1++k2) K:=fun r p k hN hL hs hk=>by
 rw [AT] at hs
 have e1:=h1 r p (k2++k) hN hL hs (hK k hk)
 have e2:=h2 (r.drop k1.length) p k (by rw [An];omega) (by rw [An];omega) (K7 hs) hk
 show (f (m.run ⟨r,false,p⟩).1).run (m.run ⟨r,false,p⟩).2=_
 rw [e1]
 show (f a).run ⟨r.drop k1.length,false,p⟩=_
 rw [e2,CJ,AA]
theorem Gs.last {α:Type} {m:PM α} {f:α→PM Ex} {a:α} {k1:List KT} (h1:Rd N m a k1 K):Gs N (m.bind f) (f a) k1 K:=by
 have:=Gs.bind (m':=f a) (K:=K) h1 (Gs.refl (f a)) (fun k h=>h)
 rwa [A1] at this
theorem Gs.CU {t:Str} {ht:t≠[]} {y n m':PM Ex} {ks:List KT} (q:Int) (h:Gs (N - 1) y m' ks K):Gs N (.acc t ht y n) m' ((q,t)::ks) K:=fun r p k hN hL hs hk=>by
 have hh:=(Gg hs).1
 rw [uR (by rw [hh];simp [hdT])]
 have e:=h r.tail p k (by rw [List.length_tail];omega) (by rw [List.length_tail];omega) (by have:=K7 (ks:=[(q,t)]) hs;simpa using this) hk
 rw [e,AB,← List.drop_one,CJ,Nat.add_comm]
theorem Gs.B2 {t:Str} {ht:t≠[]} {y n m':PM Ex} {ks:List KT} (hn:∀k,K k→hdT (ks++k)≠t) (h:Gs N n m' ks K):Gs N (.acc t ht y n) m' ks K:=fun r p k hN hL hs hk=>by
 have hh:=(Gg hs).1
 rw [S6 (by rw [hh];simpa using hn k hk)]
 exact h r p k hN hL hs hk
theorem Ac.of {m:PM Ex} {c:Nat→Ex→PM Ex} {e:Ex} {ks:List KT} (h:Rd N m e ks K):Ac N (m.bind fun a=>c BK a) c e ks K:=⟨0,CX _,Gs.last (f:=fun a=>c BK a) h⟩
theorem Ac.step {m:PM Ex} {c:Nat→Ex→PM Ex} {a e:Ex} {k1 k2:List KT} {K1:List KT→Prop} (h1:Ac N m c a k1 K1) (h2:∀n,Gs (N - k1.length) (c (n+1) a) (c n e) k2 K) (hk2:k2≠[]) (hK:∀k,K k→K1 (k2++k)):Ac N m c e (k1++k2) K:=by
 obtain ⟨j,hj,h1⟩:=h1
 have hl2:1≤k2.length:=Aq.2 hk2
 refine ⟨j+1,by rw [AA];omega,fun r p k hN hL hs hk=>?_⟩
 have hsl:=congrArg Kd hs
 rw [Pb,AA,AA] at hsl
 rw [AT] at hs
 have e1:=h1 r p (k2++k) hN hL hs (hK k hk)
 have hf:=Fb
 have e2:=h2 (BK - (j+1)) (r.drop k1.length) p k (by rw [An];omega) (by rw [An];omega) (K7 hs) hk
 rw [e1,show BK - j=BK - (j+1)+1 by omega,e2,CJ,AA]
theorem Ac.fin {m:PM Ex} {c:Nat→Ex→PM Ex} {e:Ex} {ks:List KT} {K':List KT→Prop} (h:Ac N m c e ks K) (hK:∀k,K' k→K k) (hc:∀n r p,K' (strip r)→(c n e).run ⟨r,false,p⟩=(e,⟨r,false,p⟩)):Rd N m e ks K':=by
 obtain ⟨j,_,h⟩:=h
 intro r p k hN hL hs hk
 rw [h r p k hN hL hs (hK k hk)]
 exact hc _ _ _ (by rw [K7 hs];exact hk)
theorem Ac.imp {m:PM Ex} {c:Nat→Ex→PM Ex} {e:Ex} {ks:List KT} {K':List KT→Prop} (h:Ac N m c e ks K) (hK:∀k,K' k→K k):Ac N m c e ks K':=by
 obtain ⟨j,hj,h⟩:=h
 exact ⟨j,hj,fun r p k hN hL hs hk=>h r p k hN hL hs (hK k hk)⟩
theorem O0 {l:List Str} {k:List KT} (h:noT l k) {t:Str} (ht:l.contains t=true):hdT k≠t:=fun e=>by
 unfold noT at h;rw [e,ht] at h;cases h
theorem Ox (r:List Tok):(r.headD Uk).text=hdT (strip r):=(Gg rfl).1
theorem bD {E:PM Ex}:∀n e r p,hdT (strip r)≠[40]→(UR E n e).run ⟨r,false,p⟩=(e,⟨r,false,p⟩)
 |0,e,r,p,_=>rfl
 |n+1,e,r,p,h=>by
  rw [UR,S6 (by rw [Ox];simpa using h)];rfl
def sPr:List Str:=[[40],[42],[47],[37]]
def sSu:List Str:=[[40],[42],[47],[37],[43],[45]]
def sEx:List Str:=[[40],[42],[47],[37],[43],[45],[60],[60,61],[61,61]]
theorem V4 {l m:List Str} (hs:m.all (fun t=>l.contains t)=true) {k:List KT} (h:noT l k):noT m k:=by
 unfold noT at h ⊢
 rw [F1] at h ⊢
 intro hc
 have hm:hdT k∈m:=by simpa [Dx] using hc
 exact h (A7.1 hs _ hm)
theorem ZD {E:PM Ex}:∀n e r p,noT sPr (strip r)→(KE E n e).run ⟨r,false,p⟩=(e,⟨r,false,p⟩)
 |0,e,r,p,_=>rfl
 |n+1,e,r,p,h=>by
  rw [KE,S6 (by rw [Ox];simpa using O0 h (t:=[42]) (by decide)),S6 (by rw [Ox];simpa using O0 h (t:=[47]) (by decide)),S6 (by rw [Ox];simpa using O0 h (t:=[37]) (by decide))];rfl
theorem rO {E:PM Ex}:∀n e r p,noT sSu (strip r)→(Td E n e).run ⟨r,false,p⟩=(e,⟨r,false,p⟩)
 |0,e,r,p,_=>rfl
 |n+1,e,r,p,h=>by
  rw [Td,S6 (by rw [Ox];simpa using O0 h (t:=[43]) (by decide)),S6 (by rw [Ox];simpa using O0 h (t:=[45]) (by decide))];rfl
def HE (E:PM Ex) (N:Nat):Prop:=∀x:Ex,x.nb→∀M,M+1≤N→Rd M E x (tkE x) (noT sEx)
theorem HE.mono {E:PM Ex} {M:Nat} (h:HE E N) (hM:M≤N):HE E M:=fun x hx M' h'=>h x hx M' (by omega)
theorem ZK (k:List KT):noT sEx ((5,[41])::k):=by show sEx.contains [41]=false;decide
theorem YV (k:List KT):noT sEx ((5,[44])::k):=by show sEx.contains [44]=false;decide
theorem Xr {E:PM Ex} (hE:HE E N) {e:Ex} (h:e.nb):Rd N (Ih E) e (IC (tkE e)) K:=by
 by_cases hN:N=0
 · subst hN;exact Ix (by simp [IC])
 unfold IC Ih
 iterate 3 refine Rd.C8 (fun k _=>by simp [hdK]) ?_
 iterate 3 refine Rd.B2 (fun k _=>by simp [hdT]) ?_
 refine Rd.CU 5 ?_
 unfold eH
 refine Rd.B2 (fun k _=>by rw [AT];exact tB h _) ?_
 exact Rd.bind (hE e h (N - 1) (by omega)) (Rd.CU 5 (Rd.pure e)) (fun k _=>ZK k)
theorem Ys {o u:Int} {n:Str} {ns:List Str} {ks:List Ex} {al:List Al} (h:(Ex.mk o n u ns ks al).nb):nmB o n=true∧nuB o u=true∧nsB o ns=true∧asB o al=true∧nkB o u ks.length=true∧(∀x∈ks,x.nb)∧∀a∈al,a.nb:=by
 rw [Ex.nb,Ex.IP,Al.IP] at h
 obtain ⟨hn,hk,ha⟩:=h
 simp only [Fi,AN] at hn
 obtain ⟨⟨⟨⟨hnm,hnu⟩,hns⟩,has⟩,hnk⟩:=hn
 exact ⟨hnm,hnu,hns,has,hnk,hk,ha⟩
theorem Ur {E:PM Ex} (hE:HE E N) {a:Ex} (h:a.nb):Rd N (O2 E) [a] (Lp [tkE a]) K:=by
 unfold Lp;rw [VH];unfold IC O2
 by_cases hN:N=0
 · subst hN;exact Ix (by simp)
 exact Rd.C6 (K1:=fun _=>True) (Rd.exp 5) (Rd.bind (hE a h _ (by omega)) (Rd.C6 (K1:=fun _=>True) (Rd.exp 5) (Rd.pure _) (fun _ _=>trivial)) (fun k _=>ZK k)) (fun _ _=>trivial)
theorem Xo {E:PM Ex} (hE:HE E N) {a b:Ex} (h:a.nb) (h2:b.nb):Rd N (S4 E) [a,b] (Lp [tkE a,tkE b]) K:=by
 unfold Lp;rw [TC,VH];unfold IC S4
 by_cases hN:N=0
 · subst hN;exact Ix (by simp)
 rw [AT,A0]
 exact Rd.C6 (K1:=fun _=>True) (Rd.exp 5) (Rd.bind (hE a h _ (by omega)) (Rd.C6 (K1:=fun _=>True) (Rd.exp 5) (Rd.bind (hE b h2 _ (by omega)) (Rd.C6 (K1:=fun _=>True) (Rd.exp 5) (Rd.pure _) (fun _ _=>trivial)) (fun k _=>ZK k)) (fun _ _=>trivial)) (fun k _=>YV _)) (fun _ _=>trivial)
theorem r2 {E:PM Ex} (hE:HE E N) {a b c:Ex} (h:a.nb) (h2:b.nb) (h3:c.nb):Rd N (eG E) [a,b,c] (Lp [tkE a,tkE b,tkE c]) K:=by
 unfold Lp;rw [TC,TC,VH];unfold IC eG
 by_cases hN:N=0
 · subst hN;exact Ix (by simp)
 rw [AT,A0,AT,A0]
 exact Rd.C6 (K1:=fun _=>True) (Rd.exp 5) (Rd.bind (hE a h _ (by omega)) (Rd.C6 (K1:=fun _=>True) (Rd.exp 5) (Rd.bind (hE b h2 _ (by omega)) (Rd.C6 (K1:=fun _=>True) (Rd.exp 5) (Rd.bind (hE c h3 _ (by omega)) (Rd.C6 (K1:=fun _=>True) (Rd.exp 5) (Rd.pure _) (fun _ _=>trivial)) (fun k _=>ZK k)) (fun _ _=>trivial)) (fun k _=>YV _)) (fun _ _=>trivial)) (fun k _=>YV _)) (fun _ _=>trivial)
theorem dA {n:Nat} (h:n≤1000000):Rd N Je (n:Int) [(3,Lib.decDigits n)] K:=by
 have:=Rd.map (N:=N) (K:=K) RR (Rd.take (hq:=by decide) (q:=3) (Lib.decDigits n))
 rw [yK h] at this
 exact this
theorem wM {E:PM Ex} (hE:HE E N) {e:Ex} (h:e.nb) (hl:lvl e=5):Rd N (Ih E) e (tkE e) (fun k=>H6 e=true→hdT k≠[40]):=by
 by_cases hN:N=0
 · subst hN;exact Ix (nE h)
 obtain ⟨o,n,u,ns,ks,al⟩:=e
 obtain ⟨hnm,hnu,hns,has,hnk,hk,-⟩:=Ys h
 rw [tkE,N3,N2]
 rcases cB hnk with rfl|rfl|rfl|rfl|rfl|rfl|rfl|rfl|rfl|rfl|rfl|rfl|rfl|rfl|rfl|rfl|rfl
 · simp [nmB,nuB,nsB,asB,nkB] at hnm hnu hns has hnk
   subst hnm hnu hns has hnk
   unfold Ih
   iterate 3 refine Rd.C8 (fun k _=>by simp [tkN,hdK]) ?_
   iterate 3 refine Rd.B2 (fun k _=>by simp [tkN,hdT]) ?_
   refine Rd.CU 5 ?_
   unfold eH
   exact Rd.CU 5 (Rd.pure _)
 · simp [nmB,nuB,nsB,asB,nkB] at hnm hnu hns has hnk
   subst hnm hns has hnk
   have hu:u=1∨u=0:=by omega
   unfold Ih
   rcases hu with rfl|rfl
   · iterate 3 refine Rd.C8 (fun k _=>by simp [tkN,hdK]) ?_
     iterate 1 refine Rd.B2 (fun k _=>by simp [tkN,hdT]) ?_
     exact Rd.CU 4 (Rd.pure _)
   · iterate 3 refine Rd.C8 (fun k _=>by simp [tkN,hdK]) ?_
     iterate 2 refine Rd.B2 (fun k _=>by simp [tkN,hdT]) ?_
     exact Rd.CU 4 (Rd.pure _)
 · simp [nmB,nuB,nsB,asB,nkB] at hnm hnu hns has hnk
   subst hnm hns has hnk
   show Rd N (Ih E) _ (UM u) _
   unfold UM Ih
   split
   · rename_i hu
     iterate 3 refine Rd.C8 (fun k _=>by simp [hdK]) ?_
     have e1:u=-((u.natAbs:Nat):Int):=by omega
     refine Rd.CU 5 ?_
     have:=Rd.map (K:=fun k=>H6 (.mk 3 [] u [] [] [])=true→hdT k≠[40]) (fun n=>exN 3 (-n) []) (dA (N:=N - 1) (n:=u.natAbs) (by omega))
     rw [← e1] at this
     exact this
   · rename_i hu
     have e1:u=((u.toNat:Nat):Int):=by omega
     refine Rd.Yl ?_
     have:=Rd.map (K:=fun k=>H6 (.mk 3 [] u [] [] [])=true→hdT k≠[40]) (fun n=>exN 3 n []) (dA (N:=N) (n:=u.toNat) (by omega))
     rw [← e1] at this
     exact this
 · simp [nmB,nuB,nsB,asB,nkB] at hnm hnu hns has hnk
   subst hnu hns has hnk
   unfold Ih
   refine Rd.C8 (fun k _=>by simp [tkN,hdK]) ?_
   exact Rd.Yl (Rd.map (fun x=>Ex.mk 4 x 0 [] [] []) (Rd.take n))
 · simp [nmB,nuB,nsB,asB,nkB] at hnm hnu hns has hnk
   subst hnm hnu hns has
   match ks,hnk,hk with
   |a::b::l,_,hk=>
    have hs:tkN 5 [] 0 [] (a::b::l) ((a::b::l).map tkE) ([].map tkA)=(5,[40])::(tkE a++((5,[44])::(cmK ((b::l).map tkE)++[(5,[41])]))):=by
     show IC (cmK (tkE a::tkE b::l.map tkE))=_
     rw [TC,IC,AT];rfl
    rw [hs]
    unfold Ih
    iterate 3 refine Rd.C8 (fun k _=>by simp [hdK]) ?_
    iterate 3 refine Rd.B2 (fun k _=>by simp [hdT]) ?_
    refine Rd.CU 5 ?_
    unfold eH
    refine Rd.B2 (fun k _=>by rw [AT];exact tB (hk a (by simp)) _) ?_
    refine Rd.bind (hE a (hk a (by simp)) _ (by omega)) (Rd.B2 (fun k _=>by simp [hdT]) (Rd.C6 (K1:=fun _=>True) (Rd.exp 5) (Rd.map (fun l=>exN 5 0 (a::l)) (Oi (Kr:=noT sEx) YV ZK (by simp) (fun x hx M hM=>hE x (hk x (Am _ hx)) M (by omega)))) (fun _ _=>trivial))) (fun k _=>YV _)
 · simp [nmB,nuB,nsB,asB,nkB] at hnm hnu hns has hnk
   subst hnu hns has
   unfold Ih
   iterate 2 refine Rd.C8 (fun k _=>by simp [tkN,hdK]) ?_
   refine Rd.Yl (Rd.C6 (K1:=fun _=>True) (Rd.take n) (Rd.map (fun l=>Ex.mk 6 n 0 [] l []) ((Xq (N:=N - 1) (Kr:=noT sEx) YV ZK ks (fun x hx M hM=>hE x (hk x hx) M (by omega))).imp (fun k hb hks=>hb (by simp [H6,hks])))) (fun _ _=>trivial))
 · simp [lvl] at hl
 · simp [lvl] at hl
 · simp [lvl] at hl
 · simp [lvl] at hl
 · simp [lvl] at hl
 · simp [lvl] at hl
 · exfalso
   have:Cf u=5:=hl
   unfold Cf at this;split at this
   · omega
   · split at this<;>omega
 · simp [nmB,nuB,nsB,asB,nkB] at hnm hnu hns has hnk
   subst hnm hns has
   have hu:u=1∨u=2∨u=3∨u=4∨u=5∨u=6∨u=7:=by omega
   unfold Ih
   rcases hu with rfl|rfl|rfl|rfl|rfl|rfl|rfl
   · obtain ⟨a,b,rfl⟩:=OZ (by simpa [He] using hnk)
     iterate 3 refine Rd.C8 (fun k _=>by simp [tkN,prT,hdK]) ?_
     iterate 6 refine Rd.B2 (fun k _=>by simp [tkN,prT,hdT]) ?_
     exact Rd.CU 4 (Rd.map (fun l=>exN 14 1 l) (Xo (hE.mono (by omega)) (hk a (by simp)) (hk b (by simp))))
   · obtain ⟨a,b,rfl⟩:=OZ (by simpa [He] using hnk)
     iterate 3 refine Rd.C8 (fun k _=>by simp [tkN,prT,hdK]) ?_
     iterate 7 refine Rd.B2 (fun k _=>by simp [tkN,prT,hdT]) ?_
     exact Rd.CU 4 (Rd.map (fun l=>exN 14 2 l) (Xo (hE.mono (by omega)) (hk a (by simp)) (hk b (by simp))))
   · obtain ⟨a,b,c,rfl⟩:=gT (by simpa [He] using hnk)
     iterate 3 refine Rd.C8 (fun k _=>by simp [tkN,prT,hdK]) ?_
     iterate 8 refine Rd.B2 (fun k _=>by simp [tkN,prT,hdT]) ?_
     exact Rd.CU 4 (Rd.map (fun l=>exN 14 3 l) (r2 (hE.mono (by omega)) (hk a (by simp)) (hk b (by simp)) (hk c (by simp))))
   · obtain ⟨a,rfl⟩:=Ub (by simpa [He] using hnk)
     iterate 3 refine Rd.C8 (fun k _=>by simp [tkN,prT,hdK]) ?_
     iterate 9 refine Rd.B2 (fun k _=>by simp [tkN,prT,hdT]) ?_
     exact Rd.CU 4 (Rd.map (fun l=>exN 14 4 l) (Ur (hE.mono (by omega)) (hk a (by simp))))
   · obtain ⟨a,rfl⟩:=Ub (by simpa [He] using hnk)
     iterate 3 refine Rd.C8 (fun k _=>by simp [tkN,prT,hdK]) ?_
     iterate 10 refine Rd.B2 (fun k _=>by simp [tkN,prT,hdT]) ?_
     exact Rd.CU 4 (Rd.map (fun l=>exN 14 5 l) (Ur (hE.mono (by omega)) (hk a (by simp))))
   · obtain ⟨a,rfl⟩:=Ub (by simpa [He] using hnk)
     iterate 3 refine Rd.C8 (fun k _=>by simp [tkN,prT,hdK]) ?_
     iterate 11 refine Rd.B2 (fun k _=>by simp [tkN,prT,hdT]) ?_
     exact Rd.CU 4 (Rd.map (fun l=>exN 14 6 l) (Ur (hE.mono (by omega)) (hk a (by simp))))
   · obtain ⟨a,b,rfl⟩:=OZ (by simpa [He] using hnk)
     iterate 3 refine Rd.C8 (fun k _=>by simp [tkN,prT,hdK]) ?_
     iterate 12 refine Rd.B2 (fun k _=>by simp [tkN,prT,hdT]) ?_
     exact Rd.CU 4 (Rd.map (fun l=>exN 14 7 l) (Xo (hE.mono (by omega)) (hk a (by simp)) (hk b (by simp))))
 · simp [nmB,nuB,nsB,asB,nkB] at hnm hnu hns has hnk
   subst hnm hns has hnk
   show Rd N (Ih E) _ ((4,[116,105,99,107])::(5,[40])::(UM u++[(5,[41])])) _
   unfold Ih
   iterate 3 refine Rd.C8 (fun k _=>by simp [hdK]) ?_
   iterate 4 refine Rd.B2 (fun k _=>by simp [hdT]) ?_
   refine Rd.CU 4 (Rd.C6 (K1:=fun _=>True) (Rd.exp 5) (Rd.bind (K1:=fun _=>True) (a:=u) ?_ (Rd.C6 (K1:=fun _=>True) (Rd.exp 5) (Rd.pure _) (fun _ _=>trivial)) (fun _ _=>trivial)) (fun _ _=>trivial))
   unfold UM
   split
   · have e1:u=-((u.natAbs:Nat):Int):=by omega
     refine Rd.CU 5 ?_
     have:=Rd.map (K:=fun _=>True) (fun n=>-n) (dA (N:=N - 1 - 1 - 1) (n:=u.natAbs) (by omega))
     rw [← e1] at this
     exact this
   · have e1:u=((u.toNat:Nat):Int):=by omega
     refine Rd.B2 (fun k _=>OM (z6 _) (by decide)) ?_
     have:=dA (N:=N - 1 - 1) (K:=fun _=>True) (n:=u.toNat) (by omega)
     rw [← e1] at this
     exact this
 · simp [nmB,nuB,nsB,asB,nkB] at hnm hnu hns has hnk
   subst hnm hnu hns has
   obtain ⟨a,rfl⟩:=Ub hnk
   unfold Ih
   iterate 3 refine Rd.C8 (fun k _=>by simp [tkN,hdK]) ?_
   iterate 5 refine Rd.B2 (fun k _=>by simp [tkN,hdT]) ?_
   exact Rd.CU 4 (Rd.map (fun l=>exN 16 0 l) (Ur (hE.mono (by omega)) (hk a (by simp))))
 · simp [lvl] at hl
end Go.Ab
