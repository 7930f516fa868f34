/- Reading the tokens of a formatted text back, in plain data: expressions. Reading the tokens of a formatted text back, in plain data: levels, programs. Conditions: none. -/
import Derived.Test.YtifplkldbbcldaaGreatDoorXQi
set_option linter.unusedSimpArgs false
set_option linter.unusedVariables false
set_option maxRecDepth 4000
set_option maxHeartbeats 8000000
open Bool renaming eq_false_iff→F5,and_eq_true→AM,or_eq_true→BX,false_eq_true→AU
open List renaming contains_eq_mem→EB,all_eq_true→A4,mem_cons_self→Ag,append_assoc→AS,length_drop→Ao,drop_drop→CN,length_append→AA,append_nil→AY,length_cons→AB,length_pos_iff→Aj,length→I8,cons_append→A0,mem_cons_of_mem→An,map_cons→AG,flatten_cons→Cn,nil_append→A1
open Nat renaming le_refl→A8,zero_le→C0,lt_or_ge→Co
namespace Go.Ab
variable {N:Nat} {K:List KT→Prop}
def opens:List Str:=[[108,101,116],[105,102],[109,97,116,99,104],[102,110],[116,114,121]]
def Fk (ks:List KT) (b:Prop):Prop:=∃q x l,ks=(q,x)::l∧x≠[41]∧(b→opens.contains x=false)
theorem AEM {x:Str} {l:List Str} (h:OR x=false) (hl:l.all OR=true):l.contains x=false:=by
 rw [F5]
 intro hc
 have hm:x∈l:=by simpa [EB] using hc
 have:=A4.1 hl x hm
 rw [h] at this;cases this
theorem AAK (n:Nat):OR (Lib.decDigits n)=false:=by
 rw [F5]
 intro hw
 obtain ⟨b,l,e,_,h,_⟩:=T2 hw
 have:=kQ n b (by rw [e];exact Ag ..)
 simp only [CT] at this
 rw [h] at this;cases this
theorem Fk.par {t:List KT} {b:Prop}:Fk (IH t) b:=⟨_,_,_,rfl,by decide,fun _=>by decide⟩
theorem Fk.app {t k:List KT} {b:Prop} (h:Fk t b):Fk (t++k) b:=by
 obtain ⟨q,x,l,rfl,h1,h2⟩:=h
 exact ⟨q,x,l++k,rfl,h1,h2⟩
theorem Fk.c {q:Int} {x:Str} {l:List KT} {b:Prop} (h1:x≠[41]) (h2:b→opens.contains x=false):Fk ((q,x)::l) b:=⟨q,x,l,rfl,h1,h2⟩
theorem Fk.w {q:Int} {x:Str} {l:List KT} {b:Prop} (h:OR x=false):Fk ((q,x)::l) b:=⟨q,x,l,rfl,OS h (by decide),fun _=>AEM h (by decide)⟩
theorem Fk.plK {d:Nat} {e:Ex} {t:List KT} (hd:1≤d) (h:Fk t (1≤lvl e)) {b:Prop}:Fk (plK d e t) b:=by
 unfold Ab.plK
 split
 · exact Fk.par
 · rename_i hl
   obtain ⟨q,x,l,e1,h1,h2⟩:=h
   exact ⟨q,x,l,e1,h1,fun _=>h2 (by omega)⟩
theorem iJ (u:Int):1≤Ch u:=by
 unfold Ch;split
 · omega
 · split<;>omega
theorem AAF:∀(s:Nat) (e:Ex),e.size≤s→e.nb→Fk (tkE e) (1≤lvl e)
 |0,e,hs,_=>by have:=e.size_pos;omega
 |s+1,.mk o n u ns ks al,hs,h=>by
  rw [Ex.nb,Ex.IW] at h
  obtain ⟨hn,hk,_⟩:=h
  have ih:∀x∈ks,Fk (tkE x) (1≤lvl x):=fun x hx=>AAF s x (by have:=Ex.Ly hx;simp only [Ex.size] at hs;omega) (hk x hx)
  simp only [GJ,AM] at hn
  obtain ⟨⟨⟨⟨hnm,hnu⟩,hns⟩,has⟩,hnk⟩:=hn
  rw [tkE,N8,N7]
  rcases iH hnk with rfl|rfl|rfl|rfl|rfl|rfl|rfl|rfl|rfl|rfl|rfl|rfl|rfl|rfl|rfl|rfl|rfl
  · exact Fk.c (by decide) (fun _=>by decide)
  · show Fk (if u=1 then [(4,[116,114,117,101])] else [(4,[102,97,108,115,101])]) _
    split
    · exact Fk.c (by decide) (fun _=>by decide)
    · exact Fk.c (by decide) (fun _=>by decide)
  · show Fk (UU u) _
    unfold UU
    split
    · exact Fk.c (by decide) (fun _=>by decide)
    · exact Fk.w (AAK _)
  · exact Fk.w (WY (by simpa [nmB] using hnm))
  · exact Fk.par
  · exact Fk.w (oX (by simpa [nmB] using hnm))
  · exact Fk.c (by decide) (fun hl=>by simp [lvl] at hl)
  · exact Fk.c (by decide) (fun hl=>by simp [lvl] at hl)
  · exact Fk.c (by decide) (fun hl=>by simp [lvl] at hl)
  · exact Fk.c (by decide) (fun hl=>by simp [lvl] at hl)
  · exact Fk.c (by decide) (fun hl=>by simp [lvl] at hl)
  · cases ks with
    |nil=>simp [nkB] at hnk
    |cons f l=>
     show Fk ((if Hc f then IH (tkE f) else plK 4 f (tkE f))++Lx (l.map tkE)) _
     refine Fk.app ?_
     split
     · exact Fk.par
     · exact Fk.plK (by omega) (ih f (by simp))
  · obtain ⟨a,b,rfl⟩:=PR (by simpa [nkB] using hnk)
    exact (Fk.plK (by have:=iJ u;split<;>omega) (ih a (by simp))).app
  · show Fk ((4,prT u)::Lx (ks.map tkE)) _
    unfold prT
    repeat' split
    all_goals exact Fk.c (by decide) (fun _=>by decide)
  · exact Fk.c (by decide) (fun _=>by decide)
  · exact Fk.c (by decide) (fun _=>by decide)
  · exact Fk.c (by decide) (fun hl=>by simp [lvl] at hl)
theorem ABN {e:Ex} (h:e.nb):Fk (tkE e) (1≤lvl e):=AAF e.size e (A8 _) h
theorem tR {e:Ex} (h:e.nb) (k:List KT):hdT (tkE e++k)≠[41]:=by
 obtain ⟨q,x,l,e1,h1,_⟩:=ABN h
 rw [(kX e1 k).1];exact h1
theorem nQ {e:Ex} (h:e.nb):tkE e≠[]:=by
 obtain ⟨q,x,l,e1,_⟩:=ABN h
 rw [e1];simp
def Gs (N:Nat) (m m':PM Ex) (ks:List KT) (K:List KT→Prop):Prop:=
 ∀r p k,r.length≤N→r.length≤17000→strip r=ks++k→K k→m.run ⟨r,false,p⟩=m'.run ⟨r.drop ks.length,false,p⟩
theorem Gs.refl (m:PM Ex):Gs N m m [] K:=fun _ _ _ _ _ _ _=>rfl
theorem Gs.bind {α:Type} {m:PM α} {f:α→PM Ex} {m':PM Ex} {a:α} {k1 k2:List KT} {K1:List KT→Prop} (h1:Rd N m a k1 K1) (h2:Gs (N - k1.length) (f a) m' k2 K) (hK:∀k,K k→K1 (k2++k)):Gs N (m.bind f) m' (k1++k2) K:=fun r p k hN hL hs hk=>by
 rw [AS] at hs
 have e1:=h1 r p (k2++k) hN hL hs (hK k hk)
 have e2:=h2 (r.drop k1.length) p k (by rw [Ao];omega) (by rw [Ao];omega) (Kh hs) hk
 show (f (m.run ⟨r,false,p⟩).1).run (m.run ⟨r,false,p⟩).2=_
 rw [e1]
 show (f a).run ⟨r.drop k1.length,false,p⟩=_
 rw [e2,CN,AA]
theorem Gs.last {α:Type} {m:PM α} {f:α→PM Ex} {a:α} {k1:List KT} (h1:Rd N m a k1 K):Gs N (m.bind f) (f a) k1 K:=by
 have:=Gs.bind (m':=f a) (K:=K) h1 (Gs.refl (f a)) (fun k h=>h)
 rwa [AY] at this
theorem Gs.CX {t:Str} {ht:t≠[]} {y n m':PM Ex} {ks:List KT} (q:Int) (h:Gs (N - 1) y m' ks K):Gs N (.acc t ht y n) m' ((q,t)::ks) K:=fun r p k hN hL hs hk=>by
 have hh:=(Gl hs).1
 rw [vE (by rw [hh];simp [hdT])]
 have e:=h r.tail p k (by rw [List.length_tail];omega) (by rw [List.length_tail];omega) (by have:=Kh (ks:=[(q,t)]) hs;simpa using this) hk
 rw [e,AB,← List.drop_one,CN,Nat.add_comm]
theorem Gs.B5 {t:Str} {ht:t≠[]} {y n m':PM Ex} {ks:List KT} (hn:∀k,K k→hdT (ks++k)≠t) (h:Gs N n m' ks K):Gs N (.acc t ht y n) m' ks K:=fun r p k hN hL hs hk=>by
 have hh:=(Gl hs).1
 rw [Sj (by rw [hh];simpa using hn k hk)]
 exact h r p k hN hL hs hk
theorem Ac.of {m:PM Ex} {c:Nat→Ex→PM Ex} {e:Ex} {ks:List KT} (h:Rd N m e ks K):Ac N (m.bind fun a=>c BL a) c e ks K:=⟨0,C0 _,Gs.last (f:=fun a=>c BL a) h⟩
theorem Ac.step {m:PM Ex} {c:Nat→Ex→PM Ex} {a e:Ex} {k1 k2:List KT} {K1:List KT→Prop} (h1:Ac N m c a k1 K1) (h2:∀n,Gs (N - k1.length) (c (n+1) a) (c n e) k2 K) (hk2:k2≠[]) (hK:∀k,K k→K1 (k2++k)):Ac N m c e (k1++k2) K:=by
 obtain ⟨j,hj,h1⟩:=h1
 have hl2:1≤k2.length:=Aj.2 hk2
 refine ⟨j+1,by rw [AA];omega,fun r p k hN hL hs hk=>?_⟩
 have hsl:=congrArg I8 hs
 rw [Pk,AA,AA] at hsl
 rw [AS] at hs
 have e1:=h1 r p (k2++k) hN hL hs (hK k hk)
 have hf:=Fg
 have e2:=h2 (BL - (j+1)) (r.drop k1.length) p k (by rw [Ao];omega) (by rw [Ao];omega) (Kh hs) hk
 rw [e1,show BL - j=BL - (j+1)+1 by omega,e2,CN,AA]
theorem Ac.fin {m:PM Ex} {c:Nat→Ex→PM Ex} {e:Ex} {ks:List KT} {K':List KT→Prop} (h:Ac N m c e ks K) (hK:∀k,K' k→K k) (hc:∀n r p,K' (strip r)→(c n e).run ⟨r,false,p⟩=(e,⟨r,false,p⟩)):Rd N m e ks K':=by
 obtain ⟨j,_,h⟩:=h
 intro r p k hN hL hs hk
 rw [h r p k hN hL hs (hK k hk)]
 exact hc _ _ _ (by rw [Kh hs];exact hk)
theorem Ac.imp {m:PM Ex} {c:Nat→Ex→PM Ex} {e:Ex} {ks:List KT} {K':List KT→Prop} (h:Ac N m c e ks K) (hK:∀k,K' k→K k):Ac N m c e ks K':=by
 obtain ⟨j,hj,h⟩:=h
 exact ⟨j,hj,fun r p k hN hL hs hk=>h r p k hN hL hs (hK k hk)⟩
theorem O5 {l:List Str} {k:List KT} (h:noT l k) {t:Str} (ht:l.contains t=true):hdT k≠t:=fun e=>by
 unfold noT at h;rw [e,ht] at h;cases h
theorem PF (r:List Tok):(r.headD Uu).text=hdT (strip r):=(Gl rfl).1
theorem bM {E:PM Ex}:∀n e r p,hdT (strip r)≠[40]→(U0 E n e).run ⟨r,false,p⟩=(e,⟨r,false,p⟩)
 |0,e,r,p,_=>rfl
 |n+1,e,r,p,h=>by
  rw [U0,Sj (by rw [PF];simpa using h)];rfl
def sPr:List Str:=[[40],[42],[47],[37]]
def sSu:List Str:=[[40],[42],[47],[37],[43],[45]]
def sEx:List Str:=[[40],[42],[47],[37],[43],[45],[60],[60,61],[61,61]]
theorem Vg {l m:List Str} (hs:m.all (fun t=>l.contains t)=true) {k:List KT} (h:noT l k):noT m k:=by
 unfold noT at h ⊢
 rw [F5] at h ⊢
 intro hc
 have hm:hdT k∈m:=by simpa [EB] using hc
 exact h (A4.1 hs _ hm)
theorem ZP {E:PM Ex}:∀n e r p,noT sPr (strip r)→(KR E n e).run ⟨r,false,p⟩=(e,⟨r,false,p⟩)
 |0,e,r,p,_=>rfl
 |n+1,e,r,p,h=>by
  rw [KR,Sj (by rw [PF];simpa using O5 h (t:=[42]) (by decide)),Sj (by rw [PF];simpa using O5 h (t:=[47]) (by decide)),Sj (by rw [PF];simpa using O5 h (t:=[37]) (by decide))];rfl
theorem r2 {E:PM Ex}:∀n e r p,noT sSu (strip r)→(Tn E n e).run ⟨r,false,p⟩=(e,⟨r,false,p⟩)
 |0,e,r,p,_=>rfl
 |n+1,e,r,p,h=>by
  rw [Tn,Sj (by rw [PF];simpa using O5 h (t:=[43]) (by decide)),Sj (by rw [PF];simpa using O5 h (t:=[45]) (by decide))];rfl
def HE (E:PM Ex) (N:Nat):Prop:=∀x:Ex,x.nb→∀M,M+1≤N→Rd M E x (tkE x) (noT sEx)
theorem HE.mono {E:PM Ex} {M:Nat} (h:HE E N) (hM:M≤N):HE E M:=fun x hx M' h'=>h x hx M' (by omega)
theorem ZW (k:List KT):noT sEx ((5,[41])::k):=by show sEx.contains [41]=false;decide
theorem Y7 (k:List KT):noT sEx ((5,[44])::k):=by show sEx.contains [44]=false;decide
theorem Xx {E:PM Ex} (hE:HE E N) {e:Ex} (h:e.nb):Rd N (Iq E) e (IH (tkE e)) K:=by
 by_cases hN:N=0
 · subst hN;exact JG (by simp [IH])
 unfold IH Iq
 iterate 3 refine Rd.C9 (fun k _=>by simp [hdK]) ?_
 iterate 3 refine Rd.B5 (fun k _=>by simp [hdT]) ?_
 refine Rd.CX 5 ?_
 unfold eQ
 refine Rd.B5 (fun k _=>by rw [AS];exact tR h _) ?_
 exact Rd.bind (hE e h (N - 1) (by omega)) (Rd.CX 5 (Rd.pure e)) (fun k _=>ZW k)
theorem ZF {o u:Int} {n:Str} {ns:List Str} {ks:List Ex} {al:List Al} (h:(Ex.mk o n u ns ks al).nb):nmB o n=true∧nuB o u=true∧nsB o ns=true∧asB o al=true∧nkB o u ks.length=true∧(∀x∈ks,x.nb)∧∀a∈al,a.nb:=by
 rw [Ex.nb,Ex.IW,Al.IW] at h
 obtain ⟨hn,hk,ha⟩:=h
 simp only [GJ,AM] at hn
 obtain ⟨⟨⟨⟨hnm,hnu⟩,hns⟩,has⟩,hnk⟩:=hn
 exact ⟨hnm,hnu,hns,has,hnk,hk,ha⟩
theorem VC {E:PM Ex} (hE:HE E N) {a:Ex} (h:a.nb):Rd N (O7 E) [a] (Lx [tkE a]) K:=by
 unfold Lx;rw [VT];unfold IH O7
 by_cases hN:N=0
 · subst hN;exact JG (by simp)
 exact Rd.C8 (K1:=fun _=>True) (Rd.exp 5) (Rd.bind (hE a h _ (by omega)) (Rd.C8 (K1:=fun _=>True) (Rd.exp 5) (Rd.pure _) (fun _ _=>trivial)) (fun k _=>ZW k)) (fun _ _=>trivial)
theorem Xu {E:PM Ex} (hE:HE E N) {a b:Ex} (h:a.nb) (h2:b.nb):Rd N (Sh E) [a,b] (Lx [tkE a,tkE b]) K:=by
 unfold Lx;rw [TP,VT];unfold IH Sh
 by_cases hN:N=0
 · subst hN;exact JG (by simp)
 rw [AS,A0]
 exact Rd.C8 (K1:=fun _=>True) (Rd.exp 5) (Rd.bind (hE a h _ (by omega)) (Rd.C8 (K1:=fun _=>True) (Rd.exp 5) (Rd.bind (hE b h2 _ (by omega)) (Rd.C8 (K1:=fun _=>True) (Rd.exp 5) (Rd.pure _) (fun _ _=>trivial)) (fun k _=>ZW k)) (fun _ _=>trivial)) (fun k _=>Y7 _)) (fun _ _=>trivial)
theorem sI {E:PM Ex} (hE:HE E N) {a b c:Ex} (h:a.nb) (h2:b.nb) (h3:c.nb):Rd N (eP E) [a,b,c] (Lx [tkE a,tkE b,tkE c]) K:=by
 unfold Lx;rw [TP,TP,VT];unfold IH eP
 by_cases hN:N=0
 · subst hN;exact JG (by simp)
 rw [AS,A0,AS,A0]
 exact Rd.C8 (K1:=fun _=>True) (Rd.exp 5) (Rd.bind (hE a h _ (by omega)) (Rd.C8 (K1:=fun _=>True) (Rd.exp 5) (Rd.bind (hE b h2 _ (by omega)) (Rd.C8 (K1:=fun _=>True) (Rd.exp 5) (Rd.bind (hE c h3 _ (by omega)) (Rd.C8 (K1:=fun _=>True) (Rd.exp 5) (Rd.pure _) (fun _ _=>trivial)) (fun k _=>ZW k)) (fun _ _=>trivial)) (fun k _=>Y7 _)) (fun _ _=>trivial)) (fun k _=>Y7 _)) (fun _ _=>trivial)
theorem dH {n:Nat} (h:n≤1000000):Rd N Jp (n:Int) [(3,Lib.decDigits n)] K:=by
 have:=Rd.map (N:=N) (K:=K) R3 (Rd.take (hq:=by decide) (q:=3) (Lib.decDigits n))
 rw [yX h] at this
 exact this
theorem w4 {E:PM Ex} (hE:HE E N) {e:Ex} (h:e.nb) (hl:lvl e=5):Rd N (Iq E) e (tkE e) (fun k=>Hc e=true→hdT k≠[40]):=by
 by_cases hN:N=0
 · subst hN;exact JG (nQ h)
 obtain ⟨o,n,u,ns,ks,al⟩:=e
 obtain ⟨hnm,hnu,hns,has,hnk,hk,-⟩:=ZF h
 rw [tkE,N8,N7]
 rcases iH hnk with rfl|rfl|rfl|rfl|rfl|rfl|rfl|rfl|rfl|rfl|rfl|rfl|rfl|rfl|rfl|rfl|rfl
 · simp [nmB,nuB,nsB,asB,nkB] at hnm hnu hns has hnk
   subst hnm hnu hns has hnk
   unfold Iq
   iterate 3 refine Rd.C9 (fun k _=>by simp [tkN,hdK]) ?_
   iterate 3 refine Rd.B5 (fun k _=>by simp [tkN,hdT]) ?_
   refine Rd.CX 5 ?_
   unfold eQ
   exact Rd.CX 5 (Rd.pure _)
 · simp [nmB,nuB,nsB,asB,nkB] at hnm hnu hns has hnk
   subst hnm hns has hnk
   have hu:u=1∨u=0:=by omega
   unfold Iq
   rcases hu with rfl|rfl
   · iterate 3 refine Rd.C9 (fun k _=>by simp [tkN,hdK]) ?_
     iterate 1 refine Rd.B5 (fun k _=>by simp [tkN,hdT]) ?_
     exact Rd.CX 4 (Rd.pure _)
   · iterate 3 refine Rd.C9 (fun k _=>by simp [tkN,hdK]) ?_
     iterate 2 refine Rd.B5 (fun k _=>by simp [tkN,hdT]) ?_
     exact Rd.CX 4 (Rd.pure _)
 · simp [nmB,nuB,nsB,asB,nkB] at hnm hnu hns has hnk
   subst hnm hns has hnk
   show Rd N (Iq E) _ (UU u) _
   unfold UU Iq
   split
   · rename_i hu
     iterate 3 refine Rd.C9 (fun k _=>by simp [hdK]) ?_
     have e1:u=-((u.natAbs:Nat):Int):=by omega
     refine Rd.CX 5 ?_
     have:=Rd.map (K:=fun k=>Hc (.mk 3 [] u [] [] [])=true→hdT k≠[40]) (fun n=>exN 3 (-n) []) (dH (N:=N - 1) (n:=u.natAbs) (by omega))
     rw [← e1] at this
     exact this
   · rename_i hu
     have e1:u=((u.toNat:Nat):Int):=by omega
     refine Rd.Yw ?_
     have:=Rd.map (K:=fun k=>Hc (.mk 3 [] u [] [] [])=true→hdT k≠[40]) (fun n=>exN 3 n []) (dH (N:=N) (n:=u.toNat) (by omega))
     rw [← e1] at this
     exact this
 · simp [nmB,nuB,nsB,asB,nkB] at hnm hnu hns has hnk
   subst hnu hns has hnk
   unfold Iq
   refine Rd.C9 (fun k _=>by simp [tkN,hdK]) ?_
   exact Rd.Yw (Rd.map (fun x=>Ex.mk 4 x 0 [] [] []) (Rd.take n))
 · simp [nmB,nuB,nsB,asB,nkB] at hnm hnu hns has hnk
   subst hnm hnu hns has
   match ks,hnk,hk with
   |a::b::l,_,hk=>
    have hs:tkN 5 [] 0 [] (a::b::l) ((a::b::l).map tkE) ([].map tkA)=(5,[40])::(tkE a++((5,[44])::(cmK ((b::l).map tkE)++[(5,[41])]))):=by
     show IH (cmK (tkE a::tkE b::l.map tkE))=_
     rw [TP,IH,AS];rfl
    rw [hs]
    unfold Iq
    iterate 3 refine Rd.C9 (fun k _=>by simp [hdK]) ?_
    iterate 3 refine Rd.B5 (fun k _=>by simp [hdT]) ?_
    refine Rd.CX 5 ?_
    unfold eQ
    refine Rd.B5 (fun k _=>by rw [AS];exact tR (hk a (by simp)) _) ?_
    refine Rd.bind (hE a (hk a (by simp)) _ (by omega)) (Rd.B5 (fun k _=>by simp [hdT]) (Rd.C8 (K1:=fun _=>True) (Rd.exp 5) (Rd.map (fun l=>exN 5 0 (a::l)) (On (Kr:=noT sEx) Y7 ZW (by simp) (fun x hx M hM=>hE x (hk x (An _ hx)) M (by omega)))) (fun _ _=>trivial))) (fun k _=>Y7 _)
 · simp [nmB,nuB,nsB,asB,nkB] at hnm hnu hns has hnk
   subst hnu hns has
   unfold Iq
   iterate 2 refine Rd.C9 (fun k _=>by simp [tkN,hdK]) ?_
   refine Rd.Yw (Rd.C8 (K1:=fun _=>True) (Rd.take n) (Rd.map (fun l=>Ex.mk 6 n 0 [] l []) ((Xw (N:=N - 1) (Kr:=noT sEx) Y7 ZW ks (fun x hx M hM=>hE x (hk x hx) M (by omega))).imp (fun k hb hks=>hb (by simp [Hc,hks])))) (fun _ _=>trivial))
 · simp [lvl] at hl
 · simp [lvl] at hl
 · simp [lvl] at hl
 · simp [lvl] at hl
 · simp [lvl] at hl
 · simp [lvl] at hl
 · exfalso
   have:Ch u=5:=hl
   unfold Ch at this;split at this
   · omega
   · split at this<;>omega
 · simp [nmB,nuB,nsB,asB,nkB] at hnm hnu hns has hnk
   subst hnm hns has
   have hu:u=1∨u=2∨u=3∨u=4∨u=5∨u=6∨u=7:=by omega
   unfold Iq
   rcases hu with rfl|rfl|rfl|rfl|rfl|rfl|rfl
   · obtain ⟨a,b,rfl⟩:=PR (by simpa [Hk] using hnk)
     iterate 3 refine Rd.C9 (fun k _=>by simp [tkN,prT,hdK]) ?_
     iterate 6 refine Rd.B5 (fun k _=>by simp [tkN,prT,hdT]) ?_
     exact Rd.CX 4 (Rd.map (fun l=>exN 14 1 l) (Xu (hE.mono (by omega)) (hk a (by simp)) (hk b (by simp))))
   · obtain ⟨a,b,rfl⟩:=PR (by simpa [Hk] using hnk)
     iterate 3 refine Rd.C9 (fun k _=>by simp [tkN,prT,hdK]) ?_
     iterate 7 refine Rd.B5 (fun k _=>by simp [tkN,prT,hdT]) ?_
     exact Rd.CX 4 (Rd.map (fun l=>exN 14 2 l) (Xu (hE.mono (by omega)) (hk a (by simp)) (hk b (by simp))))
   · obtain ⟨a,b,c,rfl⟩:=iB (by simpa [Hk] using hnk)
     iterate 3 refine Rd.C9 (fun k _=>by simp [tkN,prT,hdK]) ?_
     iterate 8 refine Rd.B5 (fun k _=>by simp [tkN,prT,hdT]) ?_
     exact Rd.CX 4 (Rd.map (fun l=>exN 14 3 l) (sI (hE.mono (by omega)) (hk a (by simp)) (hk b (by simp)) (hk c (by simp))))
   · obtain ⟨a,rfl⟩:=Ui (by simpa [Hk] using hnk)
     iterate 3 refine Rd.C9 (fun k _=>by simp [tkN,prT,hdK]) ?_
     iterate 9 refine Rd.B5 (fun k _=>by simp [tkN,prT,hdT]) ?_
     exact Rd.CX 4 (Rd.map (fun l=>exN 14 4 l) (VC (hE.mono (by omega)) (hk a (by simp))))
   · obtain ⟨a,rfl⟩:=Ui (by simpa [Hk] using hnk)
     iterate 3 refine Rd.C9 (fun k _=>by simp [tkN,prT,hdK]) ?_
     iterate 10 refine Rd.B5 (fun k _=>by simp [tkN,prT,hdT]) ?_
     exact Rd.CX 4 (Rd.map (fun l=>exN 14 5 l) (VC (hE.mono (by omega)) (hk a (by simp))))
   · obtain ⟨a,rfl⟩:=Ui (by simpa [Hk] using hnk)
     iterate 3 refine Rd.C9 (fun k _=>by simp [tkN,prT,hdK]) ?_
     iterate 11 refine Rd.B5 (fun k _=>by simp [tkN,prT,hdT]) ?_
     exact Rd.CX 4 (Rd.map (fun l=>exN 14 6 l) (VC (hE.mono (by omega)) (hk a (by simp))))
   · obtain ⟨a,b,rfl⟩:=PR (by simpa [Hk] using hnk)
     iterate 3 refine Rd.C9 (fun k _=>by simp [tkN,prT,hdK]) ?_
     iterate 12 refine Rd.B5 (fun k _=>by simp [tkN,prT,hdT]) ?_
     exact Rd.CX 4 (Rd.map (fun l=>exN 14 7 l) (Xu (hE.mono (by omega)) (hk a (by simp)) (hk b (by simp))))
 · simp [nmB,nuB,nsB,asB,nkB] at hnm hnu hns has hnk
   subst hnm hns has hnk
   show Rd N (Iq E) _ ((4,[116,105,99,107])::(5,[40])::(UU u++[(5,[41])])) _
   unfold Iq
   iterate 3 refine Rd.C9 (fun k _=>by simp [hdK]) ?_
   iterate 4 refine Rd.B5 (fun k _=>by simp [hdT]) ?_
   refine Rd.CX 4 (Rd.C8 (K1:=fun _=>True) (Rd.exp 5) (Rd.bind (K1:=fun _=>True) (a:=u) ?_ (Rd.C8 (K1:=fun _=>True) (Rd.exp 5) (Rd.pure _) (fun _ _=>trivial)) (fun _ _=>trivial)) (fun _ _=>trivial))
   unfold UU
   split
   · have e1:u=-((u.natAbs:Nat):Int):=by omega
     refine Rd.CX 5 ?_
     have:=Rd.map (K:=fun _=>True) (fun n=>-n) (dH (N:=N - 1 - 1 - 1) (n:=u.natAbs) (by omega))
     rw [← e1] at this
     exact this
   · have e1:u=((u.toNat:Nat):Int):=by omega
     refine Rd.B5 (fun k _=>OS (AAK _) (by decide)) ?_
     have:=dH (N:=N - 1 - 1) (K:=fun _=>True) (n:=u.toNat) (by omega)
     rw [← e1] at this
     exact this
 · simp [nmB,nuB,nsB,asB,nkB] at hnm hnu hns has hnk
   subst hnm hnu hns has
   obtain ⟨a,rfl⟩:=Ui hnk
   unfold Iq
   iterate 3 refine Rd.C9 (fun k _=>by simp [tkN,hdK]) ?_
   iterate 5 refine Rd.B5 (fun k _=>by simp [tkN,hdT]) ?_
   exact Rd.CX 4 (Rd.map (fun l=>exN 16 0 l) (VC (hE.mono (by omega)) (hk a (by simp))))
 · simp [lvl] at hl
end Go.Ab
namespace Go.Ab
variable {N:Nat} {K:List KT→Prop}
theorem oM (u:Int):Ch u≤3:=by
 unfold Ch;split
 · omega
 · split<;>omega
def rA (o u:Int):Nat:=if o=7∨o=8∨o=9∨o=10∨o=11∨o=17 then 0 else if o=13 then Ch u else if o=12 then 4 else 5
theorem eK {o u:Int} {n:Str} {ns:List Str} {ks:List Ex} {al:List Al}:lvl (.mk o n u ns ks al)=rA o u:=rfl
theorem TW (o u:Int):((o=7∨o=8∨o=9∨o=10∨o=11∨o=17)∧rA o u=0)∨(o=13∧rA o u=Ch u)∨(o=12∧rA o u=4)∨rA o u=5:=by
 unfold rA
 split
 · rename_i h;exact .inl ⟨h,rfl⟩
 · split
   · rename_i h;exact .inr (.inl ⟨h,rfl⟩)
   · split
     · rename_i h;exact .inr (.inr (.inl ⟨h,rfl⟩))
     · exact .inr (.inr (.inr rfl))
theorem AB5 (e:Ex):lvl e≤5:=by
 obtain ⟨o,n,u,ns,ks,al⟩:=e
 have:=oM u
 have:=TW o u
 rw [eK];omega
theorem AEL {o u:Int} {n:Str} {ns:List Str} {ks:List Ex} {al:List Al} (h:lvl (.mk o n u ns ks al)=4):o=12:=by
 have:=oM u
 have:=TW o u
 rw [eK] at h;omega
theorem lN {o u:Int} {n:Str} {ns:List Str} {ks:List Ex} {al:List Al} (h:1≤lvl (.mk o n u ns ks al)) (h2:lvl (.mk o n u ns ks al)≤3):o=13∧Ch u=lvl (.mk o n u ns ks al):=by
 have:=TW o u
 rw [eK] at *;omega
theorem AEK {o u:Int} {n:Str} {ns:List Str} {ks:List Ex} {al:List Al} (h:lvl (.mk o n u ns ks al)=0):o=7∨o=8∨o=9∨o=10∨o=11∨o=17:=by
 have:=iJ u
 have:=TW o u
 rw [eK] at h;omega
theorem lX {d:Nat} {e:Ex} {t:List KT} (h:lvl e < d):plK d e t=IH t:=if_pos h
theorem W2 {d:Nat} {e:Ex} {t:List KT} (h:d≤lvl e):plK d e t=t:=if_neg (by omega)
theorem ACB {d:Nat} {e:Ex} (h:e.nb):plK d e (tkE e)≠[]:=by
 unfold plK;split
 · simp [IH]
 · exact nQ h
theorem Ac.zero {m:PM Ex} {c:Nat→Ex→PM Ex} {e:Ex} {ks:List KT} (h:ks≠[]):Ac 0 m c e ks K:=⟨0,C0 _,fun r p k h1 _ hs _=>by
 have:=congrArg I8 hs
 rw [Pk,AA] at this
 have:=Aj.2 h
 omega⟩
section
variable {E:PM Ex}
theorem sD:∀(s:Nat) (e:Ex) (N:Nat),HE E N→e.size≤s→e.nb→Ac N (R4 E) (U0 E) e (plK 4 e (tkE e)) (fun k=>Hc e=true→hdT k≠[40])
 |0,e,_,_,hs,_=>by have:=e.size_pos;omega
 |s+1,e,N,hE,hs,h=>by
  by_cases hN:N=0
  · subst hN;exact Ac.zero (ACB h)
  rcases Co (lvl e) 4 with hl|hl
  · rw [lX hl];exact Ac.of (Xx hE h)
  rw [W2 hl]
  by_cases h5:lvl e=5
  · exact Ac.of (w4 hE h h5)
  have h4:lvl e=4:=by have:=AB5 e;omega
  obtain ⟨o,n,u,ns,ks,al⟩:=e
  have:=AEL h4
  subst this
  obtain ⟨hnm,hnu,hns,has,hnk,hk,-⟩:=ZF h
  simp [nmB,nuB,nsB,asB,nkB] at hnm hnu hns has hnk
  subst hnm hnu hns has
  cases ks with
  |nil=>simp at hnk
  |cons f l=>
   have hf:=hk f (Ag ..)
   rw [tkE,N8,N7]
   show Ac N (R4 E) (U0 E) (.mk 12 [] 0 [] (f::l) []) ((if Hc f then IH (tkE f) else plK 4 f (tkE f))++Lx (l.map tkE)) _
   refine Ac.step (K1:=fun _=>True) (a:=f) ?_ (fun m=>?_) (by simp [Lx,IH]) (fun _ _=>trivial)
   · split
     · exact Ac.of (Xx hE hf)
     · rename_i hb
       exact (sD s f N hE (by simp only [Ex.size,Ex.BA] at hs;omega) hf).imp (fun k _ hb'=>absurd hb' hb)
   · rw [U0,Lx,IH]
     refine Gs.CX 5 (Gs.last (f:=fun l=>U0 E m (exN 12 0 (f::l))) (dG (Kr:=noT sEx) Y7 ZW l (fun x hx M hM=>hE x (hk x (An _ hx)) M (by omega)) (fun x hx k=>tR (hk x (An _ hx)) k)))
theorem nF {e:Ex} (hE:HE E N) (h:e.nb):Rd N (R4 E) e (plK 4 e (tkE e)) (fun k=>hdT k≠[40]):=(sD e.size e N hE (A8 _) h).fin (fun k hk _=>hk) (fun n r p hk=>bM n e r p hk)
theorem sH {e:Ex} (hE:HE E N) (h:e.nb):Rd N (R4 E) e (IH (tkE e)) (fun k=>hdT k≠[40]):=(Ac.of (K:=fun _=>True) (Xx hE h)).fin (fun _ _=>trivial) (fun n r p hk=>bM n e r p hk)
theorem dJ {o u:Int} {n:Str} {ns:List Str} {ks:List Ex} {al:List Al} (h:(Ex.mk o n u ns ks al).nb) (ho:o=13):∃a b,Ex.mk o n u ns ks al=Hn u a b∧a.nb∧b.nb∧1≤u∧u≤8:=by
 subst ho
 obtain ⟨hnm,hnu,hns,has,hnk,hk,-⟩:=ZF h
 simp [nmB,nuB,nsB,asB,nkB] at hnm hnu hns has hnk
 subst hnm hns has
 obtain ⟨a,b,rfl⟩:=PR hnk
 exact ⟨a,b,rfl,hk a (by simp),hk b (by simp),hnu.1,hnu.2⟩
theorem mV {u:Int} {a b:Ex}:tkE (Hn u a b)=plK (if Ch u=1 then 2 else Ch u) a (tkE a)++((5,opT u)::plK (if Ch u=1 then 2 else Ch u+1) b (tkE b)):=by
 show tkE (.mk 13 [] u [] [a,b] [])=_
 rw [tkE,N8,N7];rfl
theorem nD:∀(s:Nat) (e:Ex) (N:Nat),HE E N→e.size≤s→e.nb→Ac N (MX E) (KR E) e (plK 3 e (tkE e)) (fun k=>hdT k≠[40])
 |0,e,_,_,hs,_=>by have:=e.size_pos;omega
 |s+1,e,N,hE,hs,h=>by
  rcases Co (lvl e) 3 with hl|hl
  · rw [lX hl];exact Ac.of (sH hE h)
  rw [W2 hl]
  by_cases h3:lvl e=3
  · obtain ⟨o,n,u,ns,ks,al⟩:=e
    obtain ⟨ho,hu⟩:=lN (by omega) (by omega:lvl (.mk o n u ns ks al)≤3)
    rw [h3] at hu
    obtain ⟨a,b,he,ha,hb,_,_⟩:=dJ h ho
    rw [he,mV,hu]
    rw [he] at hs
    have hsz:a.size≤s:=by simp only [Hn,exN,Ex.size,Ex.BA] at hs;omega
    have hu3:u=3∨u=4∨u=5:=by
     unfold Ch at hu;split at hu
     · omega
     · split at hu<;>omega
    refine Ac.step (nD s a N hE hsz ha) (fun m=>?_) (by simp) (fun k hk=>?_)
    · rw [KR]
      rcases hu3 with rfl|rfl|rfl
      · exact Gs.CX 5 (Gs.last (f:=fun b=>KR E m (Hn 3 a b)) (nF (hE.mono (by omega)) hb))
      · exact Gs.B5 (fun k _=>by simp [hdT,opT,Vh]) (Gs.CX 5 (Gs.last (f:=fun b=>KR E m (Hn 4 a b)) (nF (hE.mono (by omega)) hb)))
      · exact Gs.B5 (fun k _=>by simp [hdT,opT,Vh]) (Gs.B5 (fun k _=>by simp [hdT,opT,Vh]) (Gs.CX 5 (Gs.last (f:=fun b=>KR E m (Hn 5 a b)) (nF (hE.mono (by omega)) hb))))
    · rcases hu3 with rfl|rfl|rfl<;>simp [hdT,opT,Vh]
  · have:=nF hE h
    rw [W2 (by omega)] at this
    exact Ac.of this
theorem j3 {e:Ex} (hE:HE E N) (h:e.nb):Rd N (MX E) e (plK 3 e (tkE e)) (noT sPr):=(nD e.size e N hE (A8 _) h).fin (fun k hk=>O5 hk (by decide)) (fun n r p hk=>ZP n e r p hk)
theorem wZ {e:Ex} (hE:HE E N) (h:e.nb):Rd N (MX E) e (IH (tkE e)) (noT sPr):=(Ac.of (sH hE h)).fin (fun k hk=>O5 hk (by decide)) (fun n r p hk=>ZP n e r p hk)
theorem sE:∀(s:Nat) (e:Ex) (N:Nat),HE E N→e.size≤s→e.nb→Ac N (L3 E) (Tn E) e (plK 2 e (tkE e)) (noT sPr)
 |0,e,_,_,hs,_=>by have:=e.size_pos;omega
 |s+1,e,N,hE,hs,h=>by
  rcases Co (lvl e) 2 with hl|hl
  · rw [lX hl];exact Ac.of (wZ hE h)
  rw [W2 hl]
  by_cases h2:lvl e=2
  · obtain ⟨o,n,u,ns,ks,al⟩:=e
    obtain ⟨ho,hu⟩:=lN (by omega) (by omega:lvl (.mk o n u ns ks al)≤3)
    rw [h2] at hu
    obtain ⟨a,b,he,ha,hb,_,_⟩:=dJ h ho
    rw [he,mV,hu]
    rw [he] at hs
    have hsz:a.size≤s:=by simp only [Hn,exN,Ex.size,Ex.BA] at hs;omega
    have hu3:u=1∨u=2:=by
     unfold Ch at hu;split at hu
     · omega
     · split at hu<;>omega
    refine Ac.step (sE s a N hE hsz ha) (fun m=>?_) (by simp) (fun k hk=>?_)
    · rw [Tn]
      rcases hu3 with rfl|rfl
      · exact Gs.CX 5 (Gs.last (f:=fun b=>Tn E m (Hn 1 a b)) (j3 (hE.mono (by omega)) hb))
      · exact Gs.B5 (fun k _=>by simp [hdT,opT,Vh]) (Gs.CX 5 (Gs.last (f:=fun b=>Tn E m (Hn 2 a b)) (j3 (hE.mono (by omega)) hb)))
    · rcases hu3 with rfl|rfl
      · show sPr.contains [43]=false;decide
      · show sPr.contains [45]=false;decide
  · have:=j3 hE h
    rw [W2 (by omega)] at this
    exact Ac.of this
theorem fV {e:Ex} (hE:HE E N) (h:e.nb):Rd N (L3 E) e (plK 2 e (tkE e)) (noT sSu):=(sE e.size e N hE (A8 _) h).fin (fun k hk=>Vg (by decide) hk) (fun n r p hk=>r2 n e r p hk)
theorem AAP {e:Ex} (hE:HE E N) (h:e.nb) (hl:1≤lvl e):Rd N (XD E) e (tkE e) (noT sEx):=by
 by_cases h1:lvl e=1
 · obtain ⟨o,n,u,ns,ks,al⟩:=e
   obtain ⟨ho,hu⟩:=lN (by omega) (by omega:lvl (.mk o n u ns ks al)≤3)
   rw [h1] at hu
   obtain ⟨a,b,he,ha,hb,g1,g2⟩:=dJ h ho
   rw [he,mV,hu]
   have hu3:u=6∨u=7∨u=8:=by
    unfold Ch at hu;split at hu
    · omega
    · split at hu<;>omega
   refine Rd.bind (fV hE ha) ?_ (fun k hk=>?_)
   · rcases hu3 with rfl|rfl|rfl
     · exact Rd.CX 5 (Rd.map (fun b=>Hn 6 a b) ((fV (hE.mono (by omega)) hb).imp (fun k hk=>Vg (by decide) hk)))
     · exact Rd.B5 (fun k _=>by simp [hdT,opT,Vh]) (Rd.CX 5 (Rd.map (fun b=>Hn 7 a b) ((fV (hE.mono (by omega)) hb).imp (fun k hk=>Vg (by decide) hk))))
     · exact Rd.B5 (fun k _=>by simp [hdT,opT,Vh]) (Rd.B5 (fun k _=>by simp [hdT,opT,Vh]) (Rd.CX 5 (Rd.map (fun b=>Hn 8 a b) ((fV (hE.mono (by omega)) hb).imp (fun k hk=>Vg (by decide) hk)))))
   · rcases hu3 with rfl|rfl|rfl
     · show sSu.contains [60]=false;decide
     · show sSu.contains [60,61]=false;decide
     · show sSu.contains [61,61]=false;decide
 · have hs:=fV hE h
   rw [W2 (by omega)] at hs
   have:=Rd.bind (K:=noT sEx) (k2:=[]) (f:=fun a=>E0 [60] ((L3 E).bind fun b=>.pure (Hn 6 a b)) <|E0 [60,61] ((L3 E).bind fun b=>.pure (Hn 7 a b)) <|E0 [61,61] ((L3 E).bind fun b=>.pure (Hn 8 a b)) <| .pure a) hs (Rd.B5 (fun k hk=>O5 hk (by decide)) (Rd.B5 (fun k hk=>O5 hk (by decide)) (Rd.B5 (fun k hk=>O5 hk (by decide)) (Rd.pure e)))) (fun k hk=>Vg (by decide) hk)
   rw [AY] at this
   exact this
theorem ADC (hE:HE E N) {a:Al} (h:a.nb) (ha:M4 a=true):Rd N (lU E) a (tkA a) (noT sEx):=by
 by_cases hN:N=0
 · subst hN;cases a;exact JG (by simp [tkA,ACK])
 obtain ⟨c,vs,b⟩:=a
 rw [Al.nb] at h
 simp only [M4,AM] at ha
 rw [tkA,ACK]
 exact Rd.C8 (K1:=fun _=>True) (Rd.take c) (Rd.bind (Xw (Kr:=fun _=>True) (fun _=>trivial) (fun _=>trivial) vs (fun s hs M _=>Rs (A4.1 ha.2 s hs))) (Rd.C8 (K1:=fun _=>True) (Rd.exp 5) (Rd.map (fun x=>Al.mk c vs x) (hE b h _ (by omega))) (fun _ _=>trivial)) (fun k _ _=>by simp [hdT])) (fun _ _=>trivial)
theorem ACH {s:Str} (h:G3 s=true) (k:List KT):hdT (shK s++k)≠[40]:=by
 unfold shK
 split
 · simp [hdT]
 · rename_i e
   simp only [G3,BX,beq_iff_eq] at h
   exact OS (WY (h.resolve_left e)) (by decide)
theorem UP (k:List KT) (t:Str) (h:sEx.contains t=false) (q:Int):noT sEx ((q,t)::k):=h
end
theorem AAE:∀(n N:Nat),N≤n→∀e:Ex,e.nb→Rd N (CJ n) e (tkE e) (noT sEx)
 |0,N,hN,e,h=>by
  have:N=0:=by omega
  subst this
  exact JG (nQ h)
 |n+1,N,hN,e,h=>by
  by_cases hN0:N=0
  · subst hN0;exact JG (nQ h)
  have hE:HE (CJ n) N:=fun x hx M hM=>AAE n M (by omega) x hx
  rw [CJ]
  by_cases hl:1≤lvl e
  · obtain ⟨q,x,l,e1,_,e2⟩:=ABN h
    have hne:∀t∈opens,∀k:List KT,hdT (tkE e++k)≠t:=fun t ht k=>by
     rw [(kX e1 k).1]
     intro e3
     have:=e2 hl
     rw [e3,EB] at this
     simp [ht] at this
    exact Rd.B5 (fun k _=>hne _ (by decide) k) (Rd.B5 (fun k _=>hne _ (by decide) k) (Rd.B5 (fun k _=>hne _ (by decide) k) (Rd.B5 (fun k _=>hne _ (by decide) k) (Rd.B5 (fun k _=>hne _ (by decide) k) (AAP hE h hl)))))
  have h0:lvl e=0:=by omega
  obtain ⟨o,nm,u,ns,ks,al⟩:=e
  obtain ⟨hnm,hnu,hns,has,hnk,hk,hal⟩:=ZF h
  have hN1:HE (CJ n) (N - 1):=hE.mono (by omega)
  rw [tkE,N8,N7]
  rcases AEK h0 with rfl|rfl|rfl|rfl|rfl|rfl
  · obtain ⟨a,b,rfl⟩:=PR (by simpa [nkB] using hnk)
    simp [nmB,nuB,nsB,asB] at hnm hnu hns has
    subst hnu hns has
    refine Rd.CX 4 ?_
    unfold iL
    refine Rd.B5 (fun k _=>by rw [AS];exact ACH hnm _) ?_
    exact Rd.bind (Rs (K:=fun _=>True) hnm) (Rd.C8 (K1:=fun _=>True) (Rd.exp 5) (Rd.bind (hE a (hk a (by simp)) _ (by omega)) (Rd.C8 (K1:=fun _=>True) (Rd.exp 4) (Rd.map (fun y=>Ex.mk 7 nm 0 [] [a,y] []) (hE b (hk b (by simp)) _ (by omega))) (fun _ _=>trivial)) (fun k _=>UP _ [105,110] (by decide) 4)) (fun _ _=>trivial)) (fun _ _=>trivial)
  · obtain ⟨a,b,rfl⟩:=PR (by simpa [nkB] using hnk)
    simp [nmB,nuB,asB] at hnm hnu has
    subst hnm hnu has
    simp only [nsB,if_true,AM,decide_eq_true_eq,A4] at hns
    obtain ⟨⟨h2,_⟩,hb⟩:=hns
    match ns,h2,hb with
    |x::y::l,_,hb=>
     have hs:tkN 8 [] 0 (x::y::l) [a,b] ([a,b].map tkE) ([].map tkA)=(4,[108,101,116])::(5,[40])::(shK x++((5,[44])::((cmK ((y::l).map shK)++[(5,[41])])++((5,[61])::(tkE a++((4,[105,110])::tkE b)))))):=by
      show (4,[108,101,116])::(IH (cmK (shK x::shK y::l.map shK))++((5,[61])::(tkE a++((4,[105,110])::tkE b))))=_
      rw [TP,IH];simp
     rw [hs]
     refine Rd.CX 4 ?_
     unfold iL
     refine Rd.CX 5 ?_
     exact Rd.bind (Rs (K:=fun _=>True) (hb x (by simp))) (Rd.C8 (K1:=fun _=>True) (Rd.exp 5) (Rd.bind (On (K:=fun _=>True) (g:=shK) (Kr:=fun _=>True) (fun _=>trivial) (fun _=>trivial) (by simp) (fun z hz M _=>Rs (hb z (An _ hz)))) (Rd.C8 (K1:=fun _=>True) (Rd.exp 5) (Rd.bind (hE a (hk a (by simp)) _ (by omega)) (Rd.C8 (K1:=fun _=>True) (Rd.exp 4) (Rd.map (fun q=>Ex.mk 8 [] 0 (x::y::l) [a,q] []) (hE b (hk b (by simp)) _ (by omega))) (fun _ _=>trivial)) (fun k _=>UP _ [105,110] (by decide) 4)) (fun _ _=>trivial)) (fun _ _=>trivial)) (fun _ _=>trivial)) (fun _ _=>trivial)
  · obtain ⟨a,b,c,rfl⟩:=iB (by simpa [nkB] using hnk)
    simp [nmB,nuB,nsB,asB] at hnm hnu hns has
    subst hnm hnu hns has
    refine Rd.B5 (fun k _=>by simp [tkN,hdT]) (Rd.CX 4 ?_)
    exact Rd.bind (hE a (hk a (by simp)) _ (by omega)) (Rd.C8 (K1:=fun _=>True) (Rd.exp 4) (Rd.bind (hE b (hk b (by simp)) _ (by omega)) (Rd.C8 (K1:=fun _=>True) (Rd.exp 4) (Rd.map (fun q=>exN 9 0 [a,b,q]) (hE c (hk c (by simp)) _ (by omega))) (fun _ _=>trivial)) (fun k _=>UP _ [101,108,115,101] (by decide) 4)) (fun _ _=>trivial)) (fun k _=>UP _ [116,104,101,110] (by decide) 4)
  · obtain ⟨a,rfl⟩:=Ui (by simpa [nkB] using hnk)
    simp [nmB,nuB,nsB] at hnm hnu hns
    subst hnm hnu hns
    have haa:=YH has
    have hne:al≠[]:=by rintro rfl;simp [asB] at has
    iterate 2 refine Rd.B5 (fun k _=>by simp [tkN,hdT]) ?_
    refine Rd.CX 4 ?_
    exact Rd.bind (hE a (hk a (by simp)) _ (by omega)) (Rd.C8 (K1:=fun _=>True) (Rd.exp 4) (Rd.bind (Xv (g:=tkA) (Kr:=noT sEx) (fun k=>UP k [124] (by decide) 5) hne (fun x hx M hM=>ADC (hE.mono (by omega)) (hal x hx) (haa x hx))) (Rd.C8 (K1:=fun _=>True) (Rd.exp 4) (Rd.pure _) (fun _ _=>trivial)) (fun k _=>⟨UP _ [101,110,100] (by decide) 4,by simp [hdT]⟩)) (fun _ _=>trivial)) (fun k _=>UP _ [119,105,116,104] (by decide) 4)
  · obtain ⟨a,rfl⟩:=Ui (by simpa [nkB] using hnk)
    simp [nmB,nuB,asB] at hnm hnu has
    subst hnm hnu has
    simp [nsB] at hns
    iterate 3 refine Rd.B5 (fun k _=>by simp [tkN,hdT]) ?_
    refine Rd.CX 4 ?_
    exact Rd.C8 (K1:=fun _=>True) (Rd.exp 5) (Rd.bind (K1:=fun _=>True) (dG (Kr:=fun _=>True) (g:=fun s=>[(1,s)]) (fun _=>trivial) (fun _=>trivial) ns (fun s hs M _=>Rd.take s) (fun s hs k=>OS (WY (hns.2 s hs)) (by decide))) (Rd.C8 (K1:=fun _=>True) (Rd.exp 5) (Rd.map (fun q=>Ex.mk 11 [] 0 ns [q] []) (hE a (hk a (by simp)) _ (by omega))) (fun _ _=>trivial)) (fun _ _=>trivial)) (fun _ _=>trivial)
  · obtain ⟨a,b,rfl⟩:=PR (by simpa [nkB] using hnk)
    simp [nmB,nuB,nsB,asB] at hnm hnu hns has
    subst hnu hns has
    iterate 4 refine Rd.B5 (fun k _=>by simp [tkN,hdT]) ?_
    refine Rd.CX 4 ?_
    exact Rd.bind (hE a (hk a (by simp)) _ (by omega)) (Rd.C8 (K1:=fun _=>True) (Rd.exp 4) (Rd.bind (Rs (K:=fun _=>True) hnm) (Rd.C8 (K1:=fun _=>True) (Rd.exp 5) (Rd.bind (hE b (hk b (by simp)) _ (by omega)) (Rd.C8 (K1:=fun _=>True) (Rd.exp 4) (Rd.pure _) (fun _ _=>trivial)) (fun k _=>UP _ [101,110,100] (by decide) 4)) (fun _ _=>trivial)) (fun _ _=>trivial)) (fun _ _=>trivial)) (fun k _=>UP _ [99,97,116,99,104] (by decide) 4)
theorem Rd.ABW {α:Type} {k0:Int} {y n:PM α} {a:α} {ks:List KT} (hn:∀k,K k→hdK (ks++k)=k0) (h:Rd N y a ks K):Rd N (.kind k0 y n) a ks K:=fun r p k hN hL hs hk=>by
 have hh:=(Gl hs).2
 have e:(PM.kind k0 y n).run ⟨r,false,p⟩=y.run ⟨r,false,p⟩:=if_pos (by rw [PSt.hd,hh];simpa using hn k hk)
 rw [e];exact h r p k hN hL hs hk
theorem AAR {f:FE} (h:MW f=true) (hb:f.body.nb) (hN:N≤BL):Rd N aX f ((1,f.name)::(Lx (f.params.map fun s=>[(1,s)])++((5,[61])::(tkE f.body++[(5,[59])])))) K:=by
 simp only [MW,AM,A4] at h
 exact Rd.C8 (K1:=fun _=>True) (Rd.take f.name) (Rd.C8 (K1:=fun _=>True) (Rd.exp 5) (Rd.bind (K1:=fun _=>True) (dG (Kr:=fun _=>True) (g:=fun s=>[(1,s)]) (fun _=>trivial) (fun _=>trivial) f.params (fun s hs M _=>Rd.take s) (fun s hs k=>OS (WY (h.2 s hs)) (by decide))) (Rd.C8 (K1:=fun _=>True) (Rd.exp 5) (Rd.bind (AAE BL _ (by omega) f.body hb) (Rd.C8 (K1:=fun _=>True) (Rd.exp 5) (Rd.pure _) (fun _ _=>trivial)) (fun k _=>UP _ [59] (by decide) 5)) (fun _ _=>trivial)) (fun _ _=>trivial)) (fun _ _=>trivial)) (fun _ _=>trivial)
theorem fX:∀(l:List FE) (n N:Nat) (ds:List DE) (fs:List FE),l.length≤n→N≤BL→(∀f∈l,MW f=true∧f.body.nb)→Rd N (MY n ds fs) ⟨ds,fs++l⟩ (l.map tkF).flatten (fun k=>hdK k=6)
 |[],0,N,ds,fs,_,_,_=>by rw [AY];exact Rd.pure _
 |[],n+1,N,ds,fs,_,_,_=>by
  rw [AY,MY]
  exact Rd.ABW (fun k hk=>hk) (Rd.pure _)
 |f::l,0,N,ds,fs,h,_,_=>by simp at h
 |f::l,n+1,N,ds,fs,h,hN,hf=>by
  have ih:=fX l n (N - 1 - (((1,f.name)::(Lx (f.params.map fun s=>[((1:Int),s)])++((5,[61])::(tkE f.body++[(5,[59])]))):List KT)).length) ds (fs++[f]) (by simp at h;omega) (by omega) (fun x hx=>hf x (An _ hx))
  rw [AS] at ih
  rw [MY,AG,Cn,tkF,A0]
  refine Rd.C9 (fun k _=>by simp [hdK]) (Rd.B5 (fun k _=>by simp [hdT]) (Rd.CX 4 ?_))
  exact Rd.bind (K1:=fun _=>True) (AAR (hf f (Ag ..)).1 (hf f (Ag ..)).2 (by omega)) ih (fun _ _=>trivial)
theorem fW (gs:List FE) (hg:∀f∈gs,MW f=true∧f.body.nb):∀(l:List DE) (n N:Nat) (ds:List DE),l.length+gs.length≤n→N≤BL→(∀d∈l,G8 d=true)→Rd N (MY n ds []) ⟨ds++l,gs⟩ ((l.map tkD).flatten++(gs.map tkF).flatten) (fun k=>hdK k=6)
 |[],n,N,ds,h,hN,_=>by
  have:=fX gs n N ds [] (by simpa using h) hN hg
  rw [AY]
  exact this
 |d::l,0,N,ds,h,_,_=>by simp at h
 |d::l,n+1,N,ds,h,hN,hf=>by
  have ih:=fW gs hg l n (N - 1 - (((2,d.name)::(Vi (d.vars.map fun s=>[((1:Int),s)])++((5,[61])::([((5:Int),[124])].intercalate (d.cons.map tkC)++[(5,[59])]))):List KT)).length) (ds++[d]) (by simp at h;omega) (by omega) (fun x hx=>hf x (An _ hx))
  rw [AS] at ih
  rw [MY,AG,Cn,tkD,A0,A0,AS]
  refine Rd.C9 (fun k _=>by simp [hdK]) (Rd.CX 4 ?_)
  exact Rd.bind (K1:=fun _=>True) (w3 (hf d (Ag ..)) (by omega)) ih (fun _ _=>trivial)
theorem lV {p:Pg} (h:Cq p=true) (hl:(V1 p).length≤16384):Ka (V1 p)=(p,0,0):=by
 obtain ⟨h1,h2⟩:=rV (uO h) hl
 obtain ⟨w,o⟩:=jL h1
 obtain ⟨n1,n2⟩:=jX h
 have hv:=h
 simp only [Cq,AM,decide_eq_true_eq] at hv
 have hf:=Fg
 have e:=fW p.SI n2 p.data BL BL [] (by omega) (A8 _) n1 (BN (V1 p)).1 0 [(6,[])] (by have:=o.1;omega) o.1 h2 rfl
 rw [A1] at e
 unfold Ka NZ
 rw [if_neg (by rw [h1];simp),e]
 simp only [AU,if_false,h,if_true]
end Go.Ab
