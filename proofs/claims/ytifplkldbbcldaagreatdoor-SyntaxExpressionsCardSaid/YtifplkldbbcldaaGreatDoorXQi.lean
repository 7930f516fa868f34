/- The tokens of formatted programs, in plain data. Reading the tokens of a formatted text back, in plain data: the rules. Conditions: none. -/
import Derived.Test.YtifplkldbbcldaaGreatDoorXQf
set_option linter.unusedSimpArgs false
set_option linter.unusedVariables false
set_option maxRecDepth 4000
set_option maxHeartbeats 8000000
open Bool renaming and_eq_true→AN,or_true→Od,or_eq_true→BV
open List renaming all_eq_true→A7,append_nil→A1,map_append→Bp,map_cons→AF,map_nil→AI,mem_cons_of_mem→Am,mem_cons_self→Ah,mem_cons→CT,drop→Ja,append_assoc→AT,length_drop→An,drop_drop→CJ,length_append→AA,length_cons→AB,flatten_cons→Cl,length→Kd
open Option renaming isSome_iff_exists→XC
open Nat renaming le_trans→BD,le_refl→A9
namespace Go.Ab
def N4 (k:Int) (n:Str) (ts:List (List KT)):List KT:=
 if k=1 then [(4,[105,110,116])] else if k=2 then [(4,[98,111,111,108])] else if k=3 then [(4,[117,110,105,116])]
                                                                                             else if k=7 then (4,[97,114,114,97,121])::V6 ts else if k=8 then (4,[114,101,102])::V6 ts
                                                                                             else if k=9 then (4,[102,110])::(Lp ts.dropLast++((5,[45,62])::ts.getLastD []))
                                                                                             else if k=4 then [(1,n)] else if k=5 then (2,n)::V6 ts else V6 ts
mutual
def IF:TE→List KT
 | .mk k n l=>N4 k n (oJ l)
def oJ:List TE→List (List KT)
 |[]=>[]
 |t::l=>IF t::oJ l
end
theorem TO:∀l:List TE,oJ l=l.map IF
 |[]=>rfl
 |t::l=>by rw [oJ,TO l];rfl
theorem eS {k:Int} {n:Str} {q:Nat} (h:Cv k n q=true):k=1∨k=2∨k=3∨k=4∨k=5∨k=6∨k=7∨k=8∨k=9:=by
 unfold Cv at h
 split at h
 · omega
 · split at h
   · omega
   · split at h
     · omega
     · split at h
       · omega
       · split at h
         · omega
         · split at h
           · omega
           · cases h
theorem Ua {α:Type}:∀ {l:List α},1≤l.length→∃m x,l=m++[x]
 |[],h=>by simp at h
 |[x],_=>⟨[],x,rfl⟩
 |x::y::l,_=>by
  obtain ⟨m,z,e⟩:=Ua (l:=y::l) (by simp)
  exact ⟨x::m,z,by rw [e];rfl⟩
theorem uB:∀(d:Nat) (t:TE),Bo d t=true→FJ (Cz t) (IF t)
 |0,.mk ..,h=>by cases h
 |d+1,.mk k n l,h=>by
  rw [Bo,AN,A7] at h
  obtain ⟨h1,h2⟩:=h
  have hl:=fun x hx=>uB d x (h2 x hx)
  rw [Cz,IF,Pz,TO]
  have ho:=TJ Cz IF l hl
  have hk:=eS h1
  rcases hk with rfl|rfl|rfl|rfl|rfl|rfl|rfl|rfl|rfl
  · exact U9 (s:=[105,110,116]) (by decide)
  · exact U9 (s:=[98,111,111,108]) (by decide)
  · exact U9 (s:=[117,110,105,116]) (by decide)
  · simp [Cv] at h1
    obtain ⟨h1,h3⟩:=h1
    subst h3
    show FJ (n++[]) [(1,n)]
    rw [A1]
    exact NP h1
  · simp [Cv] at h1
    exact (PI h1.1).ss (by have:=N1 (l.map Cz) (r:=[]) rfl;rwa [A1] at this) ho.s
  · simp [Cv] at h1
    rw [h1.1.1]
    exact ho.s
  · exact (U9 (s:=[97,114,114,97,121]) (by decide)).ss (by have:=N1 (l.map Cz) (r:=[]) rfl;rwa [A1] at this) ho.s
  · exact (U9 (s:=[114,101,102]) (by decide)).ss (by have:=N1 (l.map Cz) (r:=[]) rfl;rwa [A1] at this) ho.s
  · simp [Cv] at h1
    obtain ⟨m,x,rfl⟩:=Ua h1.1.2
    have hm:=V0 Cz IF m (fun y hy=>hl y (List.mem_append_left _ hy))
    have hx:=hl x (by simp)
    show FJ ([102,110]++(FC ((m++[x]).map Cz).dropLast++([32,45,62,32]++((m++[x]).map Cz).getLastD []))) ((4,[102,110])::(Lp ((m++[x]).map IF).dropLast++((5,[45,62])::((m++[x]).map IF).getLastD [])))
    simp only [Bp,AF,AI,List.dropLast_concat,List.getLastD_concat]
    exact (U9 (s:=[102,110]) (by decide)).ss rfl (hm.ss (TI.ss hx))
def atK (l:List (List KT)) (i:Nat):List KT:=l.getD i []
def plK (d:Nat) (k:Ex) (t:List KT):List KT:=if lvl k < d then IC t else t
def ADZ (ks:List Ex) (ts:List (List KT)):List KT:=match ks with
 |[]=>Lp ts.tail
 |k::_=>(if H6 k then IC (atK ts 0) else plK 4 k (atK ts 0))++Lp ts.tail
def AD0 (u:Int) (ks:List Ex) (ts:List (List KT)):List KT:=match ks with
 |[a,b]=>plK (if Cf u=1 then 2 else Cf u) a (atK ts 0)++((5,opT u)::plK (if Cf u=1 then 2 else Cf u+1) b (atK ts 1))
 |_=>[]
def tkN (o:Int) (n:Str) (u:Int) (ns:List Str) (ks:List Ex) (ts:List (List KT)) (aks:List (List KT)):List KT:=
 if o=7 then (4,[108,101,116])::(shK n++((5,[61])::(atK ts 0++((4,[105,110])::atK ts 1))))
                                                                 else if o=8 then (4,[108,101,116])::(V6 (ns.map shK)++((5,[61])::(atK ts 0++((4,[105,110])::atK ts 1))))
                                                                 else if o=9 then (4,[105,102])::(atK ts 0++((4,[116,104,101,110])::(atK ts 1++((4,[101,108,115,101])::atK ts 2))))
                                                                 else if o=10 then (4,[109,97,116,99,104])::(atK ts 0++((4,[119,105,116,104])::([(5,[124])].intercalate aks++[(4,[101,110,100])])))
                                                                 else if o=11 then (4,[102,110])::(Lp (ns.map fun s=>[(1,s)])++((5,[45,62])::atK ts 0))
                                                                 else if o=17 then (4,[116,114,121])::(atK ts 0++((4,[99,97,116,99,104])::(shK n++((5,[45,62])::(atK ts 1++[(4,[101,110,100])])))))
                                                                 else if o=13 then AD0 u ks ts
                                                                 else if o=12 then ADZ ks ts
                                                                 else if o=1 then [(5,[40]),(5,[41])]
                                                                 else if o=2 then (if u=1 then [(4,[116,114,117,101])] else [(4,[102,97,108,115,101])])
                                                                 else if o=3 then UM u
                                                                 else if o=5 then Lp ts
                                                                 else if o=14 then (4,prT u)::Lp ts
                                                                 else if o=16 then (4,[114,97,105,115,101])::Lp ts
                                                                 else if o=15 then (4,[116,105,99,107])::IC (UM u)
                                                                 else if o=4 then [(1,n)]
                                                                 else (2,n)::V6 ts
def AB3 (c:Str) (vs:List Str) (b:List KT):List KT:=(2,c)::(V6 (vs.map shK)++((5,[45,62])::b))
mutual
def tkE:Ex→List KT
 | .mk o n u ns ks al=>tkN o n u ns ks (y7 ks) (y6 al)
def y7:List Ex→List (List KT)
 |[]=>[]
 |t::l=>tkE t::y7 l
def tkA:Al→List KT
 | .mk c vs b=>AB3 c vs (tkE b)
def y6:List Al→List (List KT)
 |[]=>[]
 |t::l=>tkA t::y6 l
end
theorem N3:∀l:List Ex,y7 l=l.map tkE
 |[]=>rfl
 |t::l=>by rw [y7,N3 l];rfl
theorem N2:∀l:List Al,y6 l=l.map tkA
 |[]=>rfl
 |t::l=>by rw [y6,N2 l];rfl
theorem cB {o u:Int} {q:Nat} (h:nkB o u q=true):o=1∨o=2∨o=3∨o=4∨o=5∨o=6∨o=7∨o=8∨o=9∨o=10∨o=11∨o=12∨o=13∨o=14∨o=15∨o=16∨o=17:=by
 unfold nkB at h
 repeat' (split at h)
 all_goals first|omega|cases h
theorem k8 {d:Nat} {k:Ex} {t:Str} {q:List KT} (h:FJ t q):FJ (pl d k t) (plK d k q):=by
 unfold pl plK
 split
 · exact (V1 h).s
 · exact h
theorem bC {l:List Str} (h:l.all GZ=true):∀s∈l,FJ (shown s) (shK s):=fun s hs=>WJ (A7.1 h s hs)
theorem ABM {u:Int} (h1:1≤u) (h2:u≤8):FJ (opT u) [(5,opT u)]:=by
 have h:u=1∨u=2∨u=3∨u=4∨u=5∨u=6∨u=7∨u=8:=by omega
 rcases h with rfl|rfl|rfl|rfl|rfl|rfl|rfl|rfl
 · exact (J2 [43] (by decide) (by decide)).s
 · exact fun r hr=>eT 45 (.inl rfl) (Z6 hr)
 · exact (J2 [42] (by decide) (by decide)).s
 · exact (J2 [47] (by decide) (by decide)).s
 · exact (J2 [37] (by decide) (by decide)).s
 · exact fun r hr=>eT 60 (.inr (.inl rfl)) (Z6 hr)
 · exact (J2 [60,61] (by decide) (by decide)).s
 · exact (J2 [61,61] (by decide) (by decide)).s
theorem tY {u:Int}:FJ (prT u) [(4,prT u)]:=by
 unfold prT
 repeat' split
 all_goals exact U9 (by decide)
theorem Ub {α:Type} {l:List α} (h:l.length=1):∃a,l=[a]:=by
 match l,h with
 |[a],_=>exact ⟨a,rfl⟩
theorem OZ {α:Type} {l:List α} (h:l.length=2):∃a b,l=[a,b]:=by
 match l,h with
 |[a,b],_=>exact ⟨a,b,rfl⟩
theorem gT {α:Type} {l:List α} (h:l.length=3):∃a b c,l=[a,b,c]:=by
 match l,h with
 |[a,b,c],_=>exact ⟨a,b,c,rfl⟩
theorem tX (o:Int) (n:Str) (u:Int) (ns:List Str) (ks:List Ex) (al:List Al) (hn:Fi o n u ns ks.length al=true) (hk:∀x∈ks,FJ (Af x) (tkE x)) (ha:∀x∈al,FJ (E0 x) (tkA x)):FJ (Af (.mk o n u ns ks al)) (tkE (.mk o n u ns ks al)):=by
 simp only [Fi,AN] at hn
 obtain ⟨⟨⟨⟨hnm,hnu⟩,hns⟩,has⟩,hnk⟩:=hn
 rw [Af,tkE,H3,N3,Mj,N2]
 have hl:=V0 Af tkE ks hk
 have ho:=TJ Af tkE ks hk
 rcases cB hnk with rfl|rfl|rfl|rfl|rfl|rfl|rfl|rfl|rfl|rfl|rfl|rfl|rfl|rfl|rfl|rfl|rfl
 · exact (tW.a uA).s
 · show FJ (if u=1 then [116,114,117,101] else [102,97,108,115,101]) (if u=1 then [(4,[116,114,117,101])] else [(4,[102,97,108,115,101])])
   split
   · exact U9 (by decide)
   · exact U9 (by decide)
 · simp [nuB] at hnu
   exact gV hnu.1 hnu.2
 · have:ks=[]:=by simpa [nkB] using hnk
   subst this
   show FJ (n++[]) [(1,n)]
   rw [A1]
   exact NP (by simpa [nmB] using hnm)
 · exact hl.s
 · exact (PI (by simpa [nmB] using hnm)).ss (by have:=N1 (ks.map Af) (r:=[]) rfl;rwa [A1] at this) ho.s
 · obtain ⟨a,b,rfl⟩:=OZ (by simpa [nkB] using hnk)
   exact (QO (s:=[108,101,116]) (by decide)).ss ((WJ (by simpa [nmB] using hnm)).ss rfl (eA.ss ((hk a (by simp)).ss rfl ((WI (s:=[105,110]) (by decide)).ss (hk b (by simp))))))
 · obtain ⟨a,b,rfl⟩:=OZ (by simpa [nkB] using hnk)
   simp only [nsB,if_true,AN] at hns
   exact (QO (s:=[108,101,116]) (by decide)).ss ((TJ shown shK ns (bC hns.2)).ss (eA.ss ((hk a (by simp)).ss rfl ((WI (s:=[105,110]) (by decide)).ss (hk b (by simp))))))
 · obtain ⟨a,b,c,rfl⟩:=gT (by simpa [nkB] using hnk)
   exact (QO (s:=[105,102]) (by decide)).ss ((hk a (by simp)).ss rfl ((WI (s:=[116,104,101,110]) (by decide)).ss ((hk b (by simp)).ss rfl ((WI (s:=[101,108,115,101]) (by decide)).ss (hk c (by simp))))))
 · obtain ⟨a,rfl⟩:=Ub (by simpa [nkB] using hnk)
   have hj:=VZ (sep:=[32,124,32]) (ks:=[(5,[124])]) (IX.a ((J2 [124] (by decide) (by decide)).a IX)) rfl (by decide) E0 tkA al ha
   exact (QO (s:=[109,97,116,99,104]) (by decide)).ss ((hk a (by simp)).ss rfl ((WI (s:=[119,105,116,104]) (by decide)).ss (hj.ss rfl (nT (s:=[101,110,100]) (by decide)))))
 · obtain ⟨a,rfl⟩:=Ub (by simpa [nkB] using hnk)
   simp [nsB] at hns
   have hp:=V0 id (fun s=>[(1,s)]) ns (fun s hs=>NP (hns.2 s hs))
   rw [List.map_id] at hp
   exact (U9 (s:=[102,110]) (by decide)).ss rfl (hp.ss (TI.ss (hk a (by simp))))
 · cases ks with
   |nil=>simp [nkB] at hnk
   |cons f l=>
    have hl2:=V0 Af tkE l (fun x hx=>hk x (Am _ hx))
    have hf:=hk f (Ah ..)
    show FJ ((if H6 f then Fk (Af f) else pl 4 f (Af f))++FC (l.map Af)) ((if H6 f then IC (tkE f) else plK 4 f (tkE f))++Lp (l.map tkE))
    refine FJ.ss ?_ rfl hl2.s
    split
    · exact (V1 hf).s
    · exact k8 hf
 · obtain ⟨a,b,rfl⟩:=OZ (by simpa [nkB] using hnk)
   simp [nuB] at hnu
   exact (k8 (hk a (by simp))).ss rfl (IX.ss ((ABM hnu.1 hnu.2).ss rfl (IX.ss (k8 (hk b (by simp))))))
 · exact (tY (u:=u)).ss rfl hl.s
 · simp [nuB] at hnu
   exact (U9 (s:=[116,105,99,107]) (by decide)).ss rfl (V1 (gV (by omega) (by omega))).s
 · exact (U9 (s:=[114,97,105,115,101]) (by decide)).ss rfl hl.s
 · obtain ⟨a,b,rfl⟩:=OZ (by simpa [nkB] using hnk)
   exact (QO (s:=[116,114,121]) (by decide)).ss ((hk a (by simp)).ss rfl ((WI (s:=[99,97,116,99,104]) (by decide)).ss ((WJ (by simpa [nmB] using hnm)).ss rfl (TI.ss ((hk b (by simp)).ss rfl (nT (s:=[101,110,100]) (by decide)))))))
theorem YB {o:Int} {al:List Al} (h:asB o al=true):∀a∈al,MY a=true:=fun a ha=>by
 unfold asB at h
 split at h
 · simp only [AN,A7] at h;exact h.2 a ha
 · have:al=[]:=by simpa using h
   rw [this] at ha;cases ha
mutual
theorem k7:∀(e:Ex),e.nb→FJ (Af e) (tkE e)
 | .mk o n u ns ks al,h=>by
  rw [Ex.nb] at h
  have h4:=h.1
  simp only [Fi,AN] at h4
  exact tX o n u ns ks al h.1 (nU ks h.2.1) (nR al h.2.2 (YB h4.1.2))
theorem nU:∀(l:List Ex),Ex.nbs l→∀x∈l,FJ (Af x) (tkE x)
 |[],_,x,hx=>by cases hx
 |k::l,h,x,hx=>by
  rw [Ex.nbs] at h
  have h1:=k7 k h.1
  have h2:=nU l h.2
  rcases CT.1 hx with rfl|hx
  · exact h1
  · exact h2 x hx
theorem ABK:∀(a:Al),a.nb→MY a=true→FJ (E0 a) (tkA a)
 | .mk c vs b,h,ha=>by
  rw [Al.nb] at h
  simp only [MY,AN] at ha
  rw [E0,tkA]
  exact (PI ha.1.1).ss (N1 _ rfl) ((TJ shown shK vs (bC ha.2)).ss (TI.ss (k7 b h)))
theorem nR:∀(l:List Al),Al.nbs l→(∀a∈l,MY a=true)→∀x∈l,FJ (E0 x) (tkA x)
 |[],_,_,x,hx=>by cases hx
 |k::l,h,ha,x,hx=>by
  rw [Al.nbs] at h
  have h1:=ABK k h.1 (ha _ (Ah ..))
  have h2:=nR l h.2 (fun a h=>ha a (Am _ h))
  rcases CT.1 hx with rfl|hx
  · exact h1
  · exact h2 x hx
end
def tkC (c:CE):List KT:=(2,c.name)::V6 (c.args.map IF)
def tkD (d:DE):List KT:=(4,[100,97,116,97])::(2,d.name)::(V6 (d.vars.map fun s=>[(1,s)])++((5,[61])::([(5,[124])].intercalate (d.cons.map tkC)++[(5,[59])])))
def tkF (f:FE):List KT:=(4,[102,117,110])::(1,f.name)::(Lp (f.params.map fun s=>[(1,s)])++((5,[61])::(tkE f.body++[(5,[59])])))
def tkP (p:Pg):List KT:=(p.data.map tkD).flatten++(p.Rx.map tkF).flatten
theorem gW:Gj [59,10] [(5,[59])]:=(J2 [59] (by decide) (by decide)).a ABL
theorem xS {c:CE} (h:Ru c=true):FJ (fmtC c) (tkC c):=by
 simp only [Ru,AN,A7] at h
 exact (PI h.1.1).ss (by have:=N1 (c.args.map Cz) (r:=[]) rfl;rwa [A1] at this) (TJ Cz IF c.args (fun t ht=>uB 40 t (h.2 t ht))).s
theorem tV {d:DE} (h:Gq d=true):Gj (U1 d) (tkD d):=by
 simp only [Gq,AN,A7] at h
 obtain ⟨⟨⟨⟨⟨h1,h2⟩,h3⟩,h4⟩,h5⟩,h6⟩:=h
 have hp:=TJ id (fun s=>[(1,s)]) d.vars (fun s hs=>NP (h3 s hs))
 rw [List.map_id] at hp
 have hj:=VZ (sep:=[32,124,32]) (ks:=[(5,[124])]) (IX.a ((J2 [124] (by decide) (by decide)).a IX)) rfl (by decide) fmtC tkC d.cons (fun c hc=>xS (h6 c hc))
 exact (QO (s:=[100,97,116,97]) (by decide)).a ((PI h1).a (N1 _ rfl) (by simp) (hp.a (eA.a (hj.a rfl (by decide) gW))))
theorem xT {f:FE} (h:NH f=true) (hb:f.body.nb):Gj (Vx f) (tkF f):=by
 simp only [NH,AN,A7] at h
 have hp:=V0 id (fun s=>[(1,s)]) f.params (fun s hs=>NP (h.2 s hs))
 rw [List.map_id] at hp
 exact (QO (s:=[102,117,110]) (by decide)).a ((NP h.1.1).a rfl (by simp [FC,Fk]) (hp.a (eA.a ((k7 _ hb).a rfl (by decide) gW))))
theorem Yp {α:Type} (f:α→Str) (g:α→List KT):∀l:List α,(∀x∈l,Gj (f x) (g x))→Gj (l.map f).flatten (l.map g).flatten
 |[],_=>Gj.nil
 |x::l,h=>(h x (Ah ..)).a (Yp f g l (fun y hy=>h y (Am _ hy)))
theorem jI {p:Pg} (h:C0 p=true):(∀d∈p.data,Gq d=true)∧∀f∈p.Rx,NH f=true∧f.body.nb:=by
 simp only [C0,AN,A7] at h
 obtain ⟨r,hr⟩:=XC.1 h.2
 refine ⟨h.1.2,Oq p.Rx 600 r (fun f _ a b hab=>?_) hr⟩
 unfold Pd at hab
 split at hab
 · rename_i hh;exact ⟨hh,e5 40 a f.body b hab⟩
 · cases hab
theorem tZ {p:Pg} (h:C0 p=true):Gj (aC p) (tkP p):=by
 obtain ⟨h1,h2⟩:=jI h
 exact (Yp U1 tkD p.data (fun d hd=>tV (h1 d hd))).a (Yp Vx tkF p.Rx (fun f hf=>xT (h2 f hf).1 (h2 f hf).2))
theorem rI {s:Str} {ks:List KT} (h:Gj s ks) (hl:s.length≤16384):(BL s).2.2=0∧strip (BL s).1=ks++[(6,[])]:=by
 unfold BL
 rw [if_neg (by omega)]
 obtain ⟨n,i,acc,e1,e2,e3⟩:=h [] (s.length+1) 0 [] (by simp)
 rw [A1] at e3
 rw [e3]
 cases n with
 |zero=>simp at e2
 |succ n=>
  rw [D6]
  refine ⟨rfl,?_⟩
  show strip (acc++[⟨6,[],i⟩])=_
  rw [strip,Bp]
  rw [strip] at e1
  rw [e1];rfl
end Go.Ab
namespace Go.Ab
def hdT (k:List KT):Str:=(k.headD (6,[])).2
def hdK (k:List KT):Int:=(k.headD (6,[])).1
def noT (l:List Str) (k:List KT):Prop:=l.contains (hdT k)=false
def Rd {α:Type} (N:Nat) (m:PM α) (a:α) (ks:List KT) (K:List KT→Prop):Prop:=
 ∀r p k,r.length≤N→r.length≤17000→strip r=ks++k→K k→m.run ⟨r,false,p⟩=(a,⟨r.drop ks.length,false,p⟩)
def Ac (N:Nat) (m:PM Ex) (c:Nat→Ex→PM Ex) (e:Ex) (ks:List KT) (K:List KT→Prop):Prop:=
 ∃j,j≤ks.length∧∀r p k,r.length≤N→r.length≤17000→strip r=ks++k→K k→m.run ⟨r,false,p⟩=(c (BK - j) e).run ⟨r.drop ks.length,false,p⟩
variable {α β:Type} {N:Nat} {K:List KT→Prop}
theorem Pb (r:List Tok):(strip r).length=r.length:=by simp [strip]
theorem K7 {r:List Tok} {ks k:List KT} (h:strip r=ks++k):strip (r.drop ks.length)=k:=by
 have:=congrArg (Ja ks.length) h
 rw [List.drop_left] at this
 rw [← this,strip,strip,List.map_drop]
theorem Gg {r:List Tok} {k:List KT} (h:strip r=k):(r.headD Uk).text=hdT k∧(r.headD Uk).kind=hdK k:=by
 subst h
 cases r with
 |nil=>exact ⟨rfl,rfl⟩
 |cons t l=>exact ⟨rfl,rfl⟩
theorem Rd.mono {m:PM α} {a:α} {ks:List KT} {M:Nat} (h:Rd N m a ks K) (hM:M≤N):Rd M m a ks K:=fun r p k h1=>h r p k (BD h1 hM)
theorem Rd.imp {m:PM α} {a:α} {ks:List KT} {K':List KT→Prop} (h:Rd N m a ks K) (hK:∀k,K' k→K k):Rd N m a ks K':=fun r p k h1 h2 h3 h4=>h r p k h1 h2 h3 (hK k h4)
theorem Rd.pure (a:α):Rd N (.pure a) a [] K:=fun _ _ _ _ _ _ _=>rfl
theorem Rd.bind {m:PM α} {f:α→PM β} {a:α} {b:β} {k1 k2:List KT} {K1:List KT→Prop} (h1:Rd N m a k1 K1) (h2:Rd (N - k1.length) (f a) b k2 K) (hK:∀k,K k→K1 (k2++k)):Rd N (m.bind f) b (k1++k2) K:=fun r p k hN hL hs hk=>by
 rw [AT] at hs
 have e1:=h1 r p (k2++k) hN hL hs (hK k hk)
 have e2:=h2 (r.drop k1.length) p k (by rw [An];omega) (by rw [An];omega) (K7 hs) hk
 show (f (m.run ⟨r,false,p⟩).1).run (m.run ⟨r,false,p⟩).2=_
 rw [e1]
 show (f a).run ⟨r.drop k1.length,false,p⟩=_
 rw [e2,CJ,AA]
theorem Rd.C6 {m:PM α} {f:α→PM β} {a:α} {b:β} {q:KT} {k2:List KT} {K1:List KT→Prop} (h1:Rd N m a [q] K1) (h2:Rd (N - 1) (f a) b k2 K) (hK:∀k,K k→K1 (k2++k)):Rd N (m.bind f) b (q::k2) K:=Rd.bind h1 h2 hK
theorem Rd.map {m:PM α} {a:α} {ks:List KT} (g:α→β) (h:Rd N m a ks K):Rd N (m.map g) (g a) ks K:=by
 have:=Rd.bind (f:=fun a=>PM.pure (g a)) h (Rd.pure (K:=K) (g a)) (fun k h=>h)
 rwa [A1] at this
theorem Rd.CU {t:Str} {ht:t≠[]} {y n:PM α} {a:α} {ks:List KT} (q:Int) (h:Rd (N - 1) y a ks K):Rd N (.acc t ht y n) a ((q,t)::ks) K:=fun r p k hN hL hs hk=>by
 have hh:=(Gg hs).1
 rw [uR (by rw [hh];simp [hdT])]
 have e:=h r.tail p k (by rw [List.length_tail];omega) (by rw [List.length_tail];omega) (by have:=K7 (ks:=[(q,t)]) hs;simpa using this) hk
 rw [e,AB,← List.drop_one,CJ,Nat.add_comm]
theorem Rd.B2 {t:Str} {ht:t≠[]} {y n:PM α} {a:α} {ks:List KT} (hn:∀k,K k→hdT (ks++k)≠t) (h:Rd N n a ks K):Rd N (.acc t ht y n) a ks K:=fun r p k hN hL hs hk=>by
 have hh:=(Gg hs).1
 rw [S6 (by rw [hh];simpa using hn k hk)]
 exact h r p k hN hL hs hk
theorem Rd.Yl {k0:Int} {y n:PM α} {a:α} {t:Str} {ks:List KT} (h:Rd N y a ((k0,t)::ks) K):Rd N (.kind k0 y n) a ((k0,t)::ks) K:=fun r p k hN hL hs hk=>by
 have hh:=(Gg hs).2
 have e:(PM.kind k0 y n).run ⟨r,false,p⟩=y.run ⟨r,false,p⟩:=if_pos (by rw [PSt.hd,hh];simp [hdK])
 rw [e];exact h r p k hN hL hs hk
theorem Rd.C8 {k0:Int} {y n:PM α} {a:α} {ks:List KT} (hn:∀k,K k→hdK (ks++k)≠k0) (h:Rd N n a ks K):Rd N (.kind k0 y n) a ks K:=fun r p k hN hL hs hk=>by
 have hh:=(Gg hs).2
 have e:(PM.kind k0 y n).run ⟨r,false,p⟩=n.run ⟨r,false,p⟩:=if_neg (by rw [PSt.hd,hh];simpa using hn k hk)
 rw [e];exact h r p k hN hL hs hk
theorem drop1 (r:List Tok):r.drop 1=r.tail:=List.drop_one
theorem Rd.exp {t:Str} {ht:t≠[]} (q:Int):Rd N (PM.exp t ht) () [(q,t)] K:=fun r p k _ _ hs _=>by
 have hh:=(Gg hs).1
 have e:(PM.exp t ht).run ⟨r,false,p⟩=((),⟨r.tail,false,p⟩):=if_pos (by simp only [PSt.hd,hh];simp [hdT])
 rw [e,← drop1];rfl
theorem Rd.take {q:Int} {hq:q≠6} (s:Str):Rd N (PM.take q hq) s [(q,s)] K:=fun r p k _ _ hs _=>by
 obtain ⟨h1,h2⟩:=Gg hs
 have e:(PM.take q hq).run ⟨r,false,p⟩=((r.headD Uk).text,⟨r.tail,false,p⟩):=if_pos (by simp only [PSt.hd,h2];simp [hdK])
 rw [e,h1,← drop1];rfl
def cR (sep:Str) (g:α→List KT) (xs:List α):List KT:=(xs.map fun x=>(5,sep)::g x).flatten
theorem Yh (sep:Str) (g:α→List KT):∀(x:α) (xs:List α),[((5:Int),sep)].intercalate ((x::xs).map g)=g x++cR sep g xs
 |x,[]=>by simp [cR]
 |x,y::xs=>by
  have ih:=Yh sep g y xs
  simp only [AF] at ih ⊢
  rw [dT,ih]
  simp [cR]
theorem cS (sep:Str) (g:α→List KT):∀xs:List α,xs.length≤(cR sep g xs).length
 |[]=>A9 _
 |x::xs=>by
  have:=cS sep g xs
  simp only [cR,AF,Cl,AA,AB] at this ⊢;omega
theorem aZ {read:PM α} {sep:Str} {hsep:sep≠[]} {g:α→List KT} {Kr:List KT→Prop} (h5:∀k,Kr ((5,sep)::k)):∀(xs:List α) (n:Nat) (acc:List α) (N:Nat),xs.length≤n→(∀x∈xs,∀M,M≤N→Rd M read x (g x) Kr)→Rd N (E3 read sep hsep n acc) (acc++xs) (cR sep g xs) (fun k=>Kr k∧hdT k≠sep)
 |[],n,acc,N,_,_=>by
  rw [A1]
  cases n with
  |zero=>exact Rd.pure _
  |succ n=>exact Rd.B2 (fun k hk=>hk.2) (Rd.pure _)
 |x::xs,0,acc,N,h,_=>by simp at h
 |x::xs,n+1,acc,N,h,hr=>by
  have ih:=aZ (hsep:=hsep) h5 xs n (acc++[x]) (N - 1 - (g x).length) (by simp at h;omega) (fun y hy M hM=>hr y (Am _ hy) M (by omega))
  rw [AT] at ih
  refine Rd.CU 5 (Rd.bind (hr x (Ah ..) (N - 1) (by omega)) ih (fun k hk=>?_))
  cases xs with
  |nil=>exact hk.1
  |cons y ys=>exact h5 _
theorem Xp {read:PM α} {sep:Str} {hsep:sep≠[]} {g:α→List KT} {Kr:List KT→Prop} (h5:∀k,Kr ((5,sep)::k)) {xs:List α} (hne:xs≠[]) (hr:∀x∈xs,∀M,M≤N→Rd M read x (g x) Kr):Rd N (items read sep hsep) xs ([((5:Int),sep)].intercalate (xs.map g)) (fun k=>Kr k∧hdT k≠sep):=by
 cases xs with
 |nil=>exact absurd rfl hne
 |cons x xs=>
  rw [Yh]
  intro r p k hN hL hs hk
  have hlen:xs.length≤BK:=by
   have h1:=cS sep g xs
   have h2:=congrArg Kd hs
   rw [Pb,AA,AA] at h2
   have:=Fb
   omega
  refine Rd.bind (K1:=Kr) (hr x (Ah ..) N (A9 _)) (aZ h5 xs BK [x] (N - (g x).length) hlen (fun y hy M hM=>hr y (Am _ hy) M (by omega))) (fun k hk=>?_) r p k hN hL hs hk
  cases xs with
  |nil=>exact hk.1
  |cons y ys=>exact h5 _
theorem Oi {read:PM α} {g:α→List KT} {Kr:List KT→Prop} (h5:∀k,Kr ((5,[44])::k)) (h6:∀k,Kr ((5,[41])::k)) {xs:List α} (hne:xs≠[]) (hr:∀x∈xs,∀M,M≤N→Rd M read x (g x) Kr):Rd N (listed read) xs (cmK (xs.map g)++[(5,[41])]) K:=
 Rd.bind (Xp h5 hne hr) (Rd.C6 (Rd.exp 5) (Rd.pure xs) (fun _ h=>h)) (fun k _=>⟨h6 k,by simp [hdT]⟩)
theorem AAF {read:PM α} {g:α→List KT} {Kr:List KT→Prop} (h5:∀k,Kr ((5,[44])::k)) (h6:∀k,Kr ((5,[41])::k)) {xs:List α} (hne:xs≠[]) (hr:∀x∈xs,∀M,M+1≤N→Rd M read x (g x) Kr) (n:PM (List α)) (ht:[40]≠[]):Rd N (.acc [40] ht (listed read) n) xs (IC (cmK (xs.map g))) K:=by
 by_cases hN:N=0
 · subst hN
   intro r p k h1 _ hs _
   have:=congrArg Kd hs
   rw [Pb] at this
   simp [IC] at this
   omega
 · exact Rd.CU 5 (Oi h5 h6 hne (fun x hx M hM=>hr x hx M (by omega)))
theorem Xq {read:PM α} {g:α→List KT} {Kr:List KT→Prop} (h5:∀k,Kr ((5,[44])::k)) (h6:∀k,Kr ((5,[41])::k)) (xs:List α) (hr:∀x∈xs,∀M,M+1≤N→Rd M read x (g x) Kr):Rd N (IZ read) xs (V6 (xs.map g)) (fun k=>xs=[]→hdT k≠[40]):=by
 cases xs with
 |nil=>exact Rd.B2 (fun k hk=>hk rfl) (Rd.pure _)
 |cons x xs=>exact AAF h5 h6 (by simp) hr _ _
theorem c8 {read:PM α} {g:α→List KT} {Kr:List KT→Prop} (h5:∀k,Kr ((5,[44])::k)) (h6:∀k,Kr ((5,[41])::k)) (xs:List α) (hr:∀x∈xs,∀M,M≤N→Rd M read x (g x) Kr) (hh:∀x∈xs,∀k,hdT (g x++k)≠[41]):Rd N (closed read) xs (cmK (xs.map g)++[(5,[41])]) K:=by
 cases xs with
 |nil=>exact Rd.CU 5 (Rd.pure _)
 |cons x xs=>
  refine Rd.B2 (fun k _=>?_) (Oi h5 h6 (by simp) hr)
  rw [cmK,Yh,AT,AT]
  exact hh x (Ah ..) _
theorem oO {s:Str} {k:Int} (hk:k=1∨k=2) (h:GS k s=true):OL s=false:=by
 have:∀t,Da s= .ok (k,t)→t=s→OL s=false:=fun t ht e=>by
  subst e
  obtain ⟨h1,_,_⟩:=ZW 0 ht
  rcases h1 with ⟨_,h⟩|h|h|h
  · exact h
  · simp only at h;omega
  · simp only at h;omega
  · have:=h.1;simp only at this;omega
 rcases hk with rfl|rfl
 · obtain ⟨b,r,rfl,h1,h2,h3,h4⟩:=V3 h
   refine this (b::r) ?_ rfl
   have ht:=eY (p:=CP GW) (s:=b::r) (rest:=[]) h2 (fun _ _ e=>by cases e)
   rw [A1] at ht
   rw [Da,ht,h1,(WK h1).2.2,h4,decide_eq_false (by omega)];rfl
 · obtain ⟨b,r,rfl,h1,h2,h3⟩:=TP h
   refine this (b::r) ?_ rfl
   have ht:=eY (p:=CP GW) (s:=b::r) (rest:=[]) h2 (fun _ _ e=>by cases e)
   rw [A1] at ht
   rw [Da,ht,h1,decide_eq_false (by omega),Od];rfl
theorem OM {s t:Str} (h:OL s=false) (ht:OL t=true):s≠t:=fun e=>by rw [e,ht] at h;cases h
theorem WL {s:Str} (h:D5 s=true):OL s=false:=oO (.inl rfl) h
theorem oM {s:Str} (h:upperB s=true):OL s=false:=oO (.inr rfl) h
theorem Rg {s:Str} (h:GZ s=true):Rd N G8 s (shK s) K:=by
 unfold shK
 split
 · rename_i e;subst e;exact Rd.CU 5 (Rd.pure _)
 · rename_i e
   simp only [GZ,BV,beq_iff_eq] at h
   have hn:D5 s=true:=h.resolve_left e
   exact Rd.B2 (fun k _=>OM (WL hn) (by decide)) (Rd.take s)
end Go.Ab
