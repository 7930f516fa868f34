/- The tokens of formatted programs, in plain data. Reading the tokens of a formatted text back, in plain data: the rules. Reading the tokens of a formatted text back, in plain data: types. Conditions: none. -/
import Derived.Test.YtifplkldbbcldaaGreatDoorXQf
set_option linter.unusedSimpArgs false
set_option linter.unusedVariables false
set_option maxRecDepth 4000
set_option maxHeartbeats 8000000
open Bool renaming and_eq_true→AM,or_true→Oi,or_eq_true→BX
open List renaming all_eq_true→A4,append_nil→AY,map_append→Bg,map_cons→AG,map_nil→AH,dropLast_concat→Rq,getLastD_concat→Rr,mem_cons_of_mem→An,mem_cons_self→Ag,mem_cons→CW,drop→GN,append_assoc→AS,length_drop→Ao,drop_drop→CN,length_append→AA,length_cons→AB,flatten_cons→Cn,length→I8
open Option renaming isSome_iff_exists→XN
open Nat renaming le_trans→BC,le_refl→A8
namespace Go.Ab
def N9 (k:Int) (n:Str) (ts:List (List KT)):List KT:=
 if k=1 then [(4,[105,110,116])] else if k=2 then [(4,[98,111,111,108])] else if k=3 then [(4,[117,110,105,116])]
                                                                                             else if k=7 then (4,[97,114,114,97,121])::Vi ts else if k=8 then (4,[114,101,102])::Vi ts
                                                                                             else if k=9 then (4,[102,110])::(Lx ts.dropLast++((5,[45,62])::ts.getLastD []))
                                                                                             else if k=4 then [(1,n)] else if k=5 then (2,n)::Vi ts else Vi ts
mutual
def IK:TE→List KT
 | .mk k n l=>N9 k n (oU l)
def oU:List TE→List (List KT)
 |[]=>[]
 |t::l=>IK t::oU l
end
theorem T1:∀l:List TE,oU l=l.map IK
 |[]=>rfl
 |t::l=>by rw [oU,T1 l];rfl
theorem fE {k:Int} {n:Str} {q:Nat} (h:Bk k n q=true):k=1∨k=2∨k=3∨k=4∨k=5∨k=6∨k=7∨k=8∨k=9:=by
 unfold Bk at h
 split at h
 · omega
 · split at h
   · omega
   · split at h
     · omega
     · split at h
       · omega
       · split at h
         · omega
         · split at h
           · omega
           · cases h
theorem Uh {α:Type}:∀ {l:List α},1≤l.length→∃m x,l=m++[x]
 |[],h=>by simp at h
 |[x],_=>⟨[],x,rfl⟩
 |x::y::l,_=>by
  obtain ⟨m,z,e⟩:=Uh (l:=y::l) (by simp)
  exact ⟨x::m,z,by rw [e];rfl⟩
theorem uQ:∀(d:Nat) (t:TE),Bf d t=true→FM (Au t) (IK t)
 |0,.mk ..,h=>by cases h
 |d+1,.mk k n l,h=>by
  rw [Bf,AM,A4] at h
  obtain ⟨h1,h2⟩:=h
  have hl:=fun x hx=>uQ d x (h2 x hx)
  rw [Au,IK,NJ,T1]
  have ho:=TV Au IK l hl
  have hk:=fE h1
  rcases hk with rfl|rfl|rfl|rfl|rfl|rfl|rfl|rfl|rfl
  · exact Ug (s:=[105,110,116]) (by decide)
  · exact Ug (s:=[98,111,111,108]) (by decide)
  · exact Ug (s:=[117,110,105,116]) (by decide)
  · simp [Bk] at h1
    obtain ⟨h1,h3⟩:=h1
    subst h3
    show FM (n++[]) [(1,n)]
    rw [AY]
    exact NV h1
  · simp [Bk] at h1
    exact (PS h1.1).ss (by have:=N6 (l.map Au) (r:=[]) rfl;rwa [AY] at this) ho.s
  · simp [Bk] at h1
    rw [h1.1.1]
    exact ho.s
  · exact (Ug (s:=[97,114,114,97,121]) (by decide)).ss (by have:=N6 (l.map Au) (r:=[]) rfl;rwa [AY] at this) ho.s
  · exact (Ug (s:=[114,101,102]) (by decide)).ss (by have:=N6 (l.map Au) (r:=[]) rfl;rwa [AY] at this) ho.s
  · simp [Bk] at h1
    obtain ⟨m,x,rfl⟩:=Uh h1.1.2
    have hm:=Vd Au IK m (fun y hy=>hl y (List.mem_append_left _ hy))
    have hx:=hl x (by simp)
    show FM ([102,110]++(FU ((m++[x]).map Au).dropLast++([32,45,62,32]++((m++[x]).map Au).getLastD []))) ((4,[102,110])::(Lx ((m++[x]).map IK).dropLast++((5,[45,62])::((m++[x]).map IK).getLastD [])))
    simp only [Bg,AG,AH,Rq,Rr]
    exact (Ug (s:=[102,110]) (by decide)).ss rfl (hm.ss (TU.ss hx))
def atK (l:List (List KT)) (i:Nat):List KT:=l.getD i []
def plK (d:Nat) (k:Ex) (t:List KT):List KT:=if lvl k < d then IH t else t
def AEF (ks:List Ex) (ts:List (List KT)):List KT:=match ks with
 |[]=>Lx ts.tail
 |k::_=>(if Hc k then IH (atK ts 0) else plK 4 k (atK ts 0))++Lx ts.tail
def AEG (u:Int) (ks:List Ex) (ts:List (List KT)):List KT:=match ks with
 |[a,b]=>plK (if Ch u=1 then 2 else Ch u) a (atK ts 0)++((5,opT u)::plK (if Ch u=1 then 2 else Ch u+1) b (atK ts 1))
 |_=>[]
def tkN (o:Int) (n:Str) (u:Int) (ns:List Str) (ks:List Ex) (ts:List (List KT)) (aks:List (List KT)):List KT:=
 if o=7 then (4,[108,101,116])::(shK n++((5,[61])::(atK ts 0++((4,[105,110])::atK ts 1))))
                                                                 else if o=8 then (4,[108,101,116])::(Vi (ns.map shK)++((5,[61])::(atK ts 0++((4,[105,110])::atK ts 1))))
                                                                 else if o=9 then (4,[105,102])::(atK ts 0++((4,[116,104,101,110])::(atK ts 1++((4,[101,108,115,101])::atK ts 2))))
                                                                 else if o=10 then (4,[109,97,116,99,104])::(atK ts 0++((4,[119,105,116,104])::([(5,[124])].intercalate aks++[(4,[101,110,100])])))
                                                                 else if o=11 then (4,[102,110])::(Lx (ns.map fun s=>[(1,s)])++((5,[45,62])::atK ts 0))
                                                                 else if o=17 then (4,[116,114,121])::(atK ts 0++((4,[99,97,116,99,104])::(shK n++((5,[45,62])::(atK ts 1++[(4,[101,110,100])])))))
                                                                 else if o=13 then AEG u ks ts
                                                                 else if o=12 then AEF ks ts
                                                                 else if o=1 then [(5,[40]),(5,[41])]
                                                                 else if o=2 then (if u=1 then [(4,[116,114,117,101])] else [(4,[102,97,108,115,101])])
                                                                 else if o=3 then UU u
                                                                 else if o=5 then Lx ts
                                                                 else if o=14 then (4,prT u)::Lx ts
                                                                 else if o=16 then (4,[114,97,105,115,101])::Lx ts
                                                                 else if o=15 then (4,[116,105,99,107])::IH (UU u)
                                                                 else if o=4 then [(1,n)]
                                                                 else (2,n)::Vi ts
def ACK (c:Str) (vs:List Str) (b:List KT):List KT:=(2,c)::(Vi (vs.map shK)++((5,[45,62])::b))
mutual
def tkE:Ex→List KT
 | .mk o n u ns ks al=>tkN o n u ns ks (zK ks) (zJ al)
def zK:List Ex→List (List KT)
 |[]=>[]
 |t::l=>tkE t::zK l
def tkA:Al→List KT
 | .mk c vs b=>ACK c vs (tkE b)
def zJ:List Al→List (List KT)
 |[]=>[]
 |t::l=>tkA t::zJ l
end
theorem N8:∀l:List Ex,zK l=l.map tkE
 |[]=>rfl
 |t::l=>by rw [zK,N8 l];rfl
theorem N7:∀l:List Al,zJ l=l.map tkA
 |[]=>rfl
 |t::l=>by rw [zJ,N7 l];rfl
theorem iH {o u:Int} {q:Nat} (h:nkB o u q=true):o=1∨o=2∨o=3∨o=4∨o=5∨o=6∨o=7∨o=8∨o=9∨o=10∨o=11∨o=12∨o=13∨o=14∨o=15∨o=16∨o=17:=by
 unfold nkB at h
 repeat' (split at h)
 all_goals first|omega|cases h
theorem lL {d:Nat} {k:Ex} {t:Str} {q:List KT} (h:FM t q):FM (pl d k t) (plK d k q):=by
 unfold pl plK
 split
 · exact (Ve h).s
 · exact h
theorem bL {l:List Str} (h:l.all G3=true):∀s∈l,FM (shown s) (shK s):=fun s hs=>WV (A4.1 h s hs)
theorem AB3 {u:Int} (h1:1≤u) (h2:u≤8):FM (opT u) [(5,opT u)]:=by
 have h:u=1∨u=2∨u=3∨u=4∨u=5∨u=6∨u=7∨u=8:=by omega
 rcases h with rfl|rfl|rfl|rfl|rfl|rfl|rfl|rfl
 · exact (Je [43] (by decide) (by decide)).s
 · exact fun r hr=>fF 45 (.inl rfl) (Zk hr)
 · exact (Je [42] (by decide) (by decide)).s
 · exact (Je [47] (by decide) (by decide)).s
 · exact (Je [37] (by decide) (by decide)).s
 · exact fun r hr=>fF 60 (.inr (.inl rfl)) (Zk hr)
 · exact (Je [60,61] (by decide) (by decide)).s
 · exact (Je [61,61] (by decide) (by decide)).s
theorem uN {u:Int}:FM (prT u) [(4,prT u)]:=by
 unfold prT
 repeat' split
 all_goals exact Ug (by decide)
theorem Ui {α:Type} {l:List α} (h:l.length=1):∃a,l=[a]:=by
 match l,h with
 |[a],_=>exact ⟨a,rfl⟩
theorem PR {α:Type} {l:List α} (h:l.length=2):∃a b,l=[a,b]:=by
 match l,h with
 |[a,b],_=>exact ⟨a,b,rfl⟩
theorem iB {α:Type} {l:List α} (h:l.length=3):∃a b c,l=[a,b,c]:=by
 match l,h with
 |[a,b,c],_=>exact ⟨a,b,c,rfl⟩
theorem uM (o:Int) (n:Str) (u:Int) (ns:List Str) (ks:List Ex) (al:List Al) (hn:GJ o n u ns ks.length al=true) (hk:∀x∈ks,FM (Af x) (tkE x)) (ha:∀x∈al,FM (E5 x) (tkA x)):FM (Af (.mk o n u ns ks al)) (tkE (.mk o n u ns ks al)):=by
 simp only [GJ,AM] at hn
 obtain ⟨⟨⟨⟨hnm,hnu⟩,hns⟩,has⟩,hnk⟩:=hn
 rw [Af,tkE,Ij,N8,Ox,N7]
 have hl:=Vd Af tkE ks hk
 have ho:=TV Af tkE ks hk
 rcases iH hnk with rfl|rfl|rfl|rfl|rfl|rfl|rfl|rfl|rfl|rfl|rfl|rfl|rfl|rfl|rfl|rfl|rfl
 · exact (uL.a uP).s
 · show FM (if u=1 then [116,114,117,101] else [102,97,108,115,101]) (if u=1 then [(4,[116,114,117,101])] else [(4,[102,97,108,115,101])])
   split
   · exact Ug (by decide)
   · exact Ug (by decide)
 · simp [nuB] at hnu
   exact iD hnu.1 hnu.2
 · have:ks=[]:=by simpa [nkB] using hnk
   subst this
   show FM (n++[]) [(1,n)]
   rw [AY]
   exact NV (by simpa [nmB] using hnm)
 · exact hl.s
 · exact (PS (by simpa [nmB] using hnm)).ss (by have:=N6 (ks.map Af) (r:=[]) rfl;rwa [AY] at this) ho.s
 · obtain ⟨a,b,rfl⟩:=PR (by simpa [nkB] using hnk)
   exact (Q0 (s:=[108,101,116]) (by decide)).ss ((WV (by simpa [nmB] using hnm)).ss rfl (eI.ss ((hk a (by simp)).ss rfl ((WU (s:=[105,110]) (by decide)).ss (hk b (by simp))))))
 · obtain ⟨a,b,rfl⟩:=PR (by simpa [nkB] using hnk)
   simp only [nsB,if_true,AM] at hns
   exact (Q0 (s:=[108,101,116]) (by decide)).ss ((TV shown shK ns (bL hns.2)).ss (eI.ss ((hk a (by simp)).ss rfl ((WU (s:=[105,110]) (by decide)).ss (hk b (by simp))))))
 · obtain ⟨a,b,c,rfl⟩:=iB (by simpa [nkB] using hnk)
   exact (Q0 (s:=[105,102]) (by decide)).ss ((hk a (by simp)).ss rfl ((WU (s:=[116,104,101,110]) (by decide)).ss ((hk b (by simp)).ss rfl ((WU (s:=[101,108,115,101]) (by decide)).ss (hk c (by simp))))))
 · obtain ⟨a,rfl⟩:=Ui (by simpa [nkB] using hnk)
   have hj:=Vc (sep:=[32,124,32]) (ks:=[(5,[124])]) (I4.a ((Je [124] (by decide) (by decide)).a I4)) rfl (by decide) E5 tkA al ha
   exact (Q0 (s:=[109,97,116,99,104]) (by decide)).ss ((hk a (by simp)).ss rfl ((WU (s:=[119,105,116,104]) (by decide)).ss (hj.ss rfl (oB (s:=[101,110,100]) (by decide)))))
 · obtain ⟨a,rfl⟩:=Ui (by simpa [nkB] using hnk)
   simp [nsB] at hns
   have hp:=Vd id (fun s=>[(1,s)]) ns (fun s hs=>NV (hns.2 s hs))
   rw [List.map_id] at hp
   exact (Ug (s:=[102,110]) (by decide)).ss rfl (hp.ss (TU.ss (hk a (by simp))))
 · cases ks with
   |nil=>simp [nkB] at hnk
   |cons f l=>
    have hl2:=Vd Af tkE l (fun x hx=>hk x (An _ hx))
    have hf:=hk f (Ag ..)
    show FM ((if Hc f then GB (Af f) else pl 4 f (Af f))++FU (l.map Af)) ((if Hc f then IH (tkE f) else plK 4 f (tkE f))++Lx (l.map tkE))
    refine FM.ss ?_ rfl hl2.s
    split
    · exact (Ve hf).s
    · exact lL hf
 · obtain ⟨a,b,rfl⟩:=PR (by simpa [nkB] using hnk)
   simp [nuB] at hnu
   exact (lL (hk a (by simp))).ss rfl (I4.ss ((AB3 hnu.1 hnu.2).ss rfl (I4.ss (lL (hk b (by simp))))))
 · exact (uN (u:=u)).ss rfl hl.s
 · simp [nuB] at hnu
   exact (Ug (s:=[116,105,99,107]) (by decide)).ss rfl (Ve (iD (by omega) (by omega))).s
 · exact (Ug (s:=[114,97,105,115,101]) (by decide)).ss rfl hl.s
 · obtain ⟨a,b,rfl⟩:=PR (by simpa [nkB] using hnk)
   exact (Q0 (s:=[116,114,121]) (by decide)).ss ((hk a (by simp)).ss rfl ((WU (s:=[99,97,116,99,104]) (by decide)).ss ((WV (by simpa [nmB] using hnm)).ss rfl (TU.ss ((hk b (by simp)).ss rfl (oB (s:=[101,110,100]) (by decide)))))))
theorem YH {o:Int} {al:List Al} (h:asB o al=true):∀a∈al,M4 a=true:=fun a ha=>by
 unfold asB at h
 split at h
 · simp only [AM,A4] at h;exact h.2 a ha
 · have:al=[]:=by simpa using h
   rw [this] at ha;cases ha
mutual
theorem lK:∀(e:Ex),e.nb→FM (Af e) (tkE e)
 | .mk o n u ns ks al,h=>by
  rw [Ex.nb] at h
  have h4:=h.1
  simp only [GJ,AM] at h4
  exact uM o n u ns ks al h.1 (oC ks h.2.1) (n9 al h.2.2 (YH h4.1.2))
theorem oC:∀(l:List Ex),Ex.nbs l→∀x∈l,FM (Af x) (tkE x)
 |[],_,x,hx=>by cases hx
 |k::l,h,x,hx=>by
  rw [Ex.nbs] at h
  have h1:=lK k h.1
  have h2:=oC l h.2
  rcases CW.1 hx with rfl|hx
  · exact h1
  · exact h2 x hx
theorem AB1:∀(a:Al),a.nb→M4 a=true→FM (E5 a) (tkA a)
 | .mk c vs b,h,ha=>by
  rw [Al.nb] at h
  simp only [M4,AM] at ha
  rw [E5,tkA]
  exact (PS ha.1.1).ss (N6 _ rfl) ((TV shown shK vs (bL ha.2)).ss (TU.ss (lK b h)))
theorem n9:∀(l:List Al),Al.nbs l→(∀a∈l,M4 a=true)→∀x∈l,FM (E5 x) (tkA x)
 |[],_,_,x,hx=>by cases hx
 |k::l,h,ha,x,hx=>by
  rw [Al.nbs] at h
  have h1:=AB1 k h.1 (ha _ (Ag ..))
  have h2:=n9 l h.2 (fun a h=>ha a (An _ h))
  rcases CW.1 hx with rfl|hx
  · exact h1
  · exact h2 x hx
end
def tkC (c:CE):List KT:=(2,c.name)::Vi (c.args.map IK)
def tkD (d:DE):List KT:=(4,[100,97,116,97])::(2,d.name)::(Vi (d.vars.map fun s=>[(1,s)])++((5,[61])::([(5,[124])].intercalate (d.cons.map tkC)++[(5,[59])])))
def tkF (f:FE):List KT:=(4,[102,117,110])::(1,f.name)::(Lx (f.params.map fun s=>[(1,s)])++((5,[61])::(tkE f.body++[(5,[59])])))
def tkP (p:Pg):List KT:=(p.data.map tkD).flatten++(p.SI.map tkF).flatten
theorem iE:Gn [59,10] [(5,[59])]:=(Je [59] (by decide) (by decide)).a AB2
theorem yD {c:CE} (h:QC c=true):FM (fmtC c) (tkC c):=by
 simp only [QC,AM,A4] at h
 exact (PS h.1.1).ss (by have:=N6 (c.args.map Au) (r:=[]) rfl;rwa [AY] at this) (TV Au IK c.args (fun t ht=>uQ 40 t (h.2 t ht))).s
theorem uK {d:DE} (h:G8 d=true):Gn (M9 d) (tkD d):=by
 simp only [G8,AM,A4] at h
 obtain ⟨⟨⟨⟨⟨h1,h2⟩,h3⟩,h4⟩,h5⟩,h6⟩:=h
 have hp:=TV id (fun s=>[(1,s)]) d.vars (fun s hs=>NV (h3 s hs))
 rw [List.map_id] at hp
 have hj:=Vc (sep:=[32,124,32]) (ks:=[(5,[124])]) (I4.a ((Je [124] (by decide) (by decide)).a I4)) rfl (by decide) fmtC tkC d.cons (fun c hc=>yD (h6 c hc))
 exact (Q0 (s:=[100,97,116,97]) (by decide)).a ((PS h1).a (N6 _ rfl) (by simp) (hp.a (eI.a (hj.a rfl (by decide) iE))))
theorem yE {f:FE} (h:MW f=true) (hb:f.body.nb):Gn (Oy f) (tkF f):=by
 simp only [MW,AM,A4] at h
 have hp:=Vd id (fun s=>[(1,s)]) f.params (fun s hs=>NV (h.2 s hs))
 rw [List.map_id] at hp
 exact (Q0 (s:=[102,117,110]) (by decide)).a ((NV h.1.1).a rfl (by simp [FU,GB]) (hp.a (eI.a ((lK _ hb).a rfl (by decide) iE))))
theorem ZB {α:Type} (f:α→Str) (g:α→List KT):∀l:List α,(∀x∈l,Gn (f x) (g x))→Gn (l.map f).flatten (l.map g).flatten
 |[],_=>Gn.nil
 |x::l,h=>(h x (Ag ..)).a (ZB f g l (fun y hy=>h y (An _ hy)))
theorem jX {p:Pg} (h:Cq p=true):(∀d∈p.data,G8 d=true)∧∀f∈p.SI,MW f=true∧f.body.nb:=by
 simp only [Cq,AM,A4] at h
 obtain ⟨r,hr⟩:=XN.1 h.2
 refine ⟨h.1.2,Oz p.SI 600 r (fun f _ a b hab=>?_) hr⟩
 unfold Pn at hab
 split at hab
 · rename_i hh;exact ⟨hh,fN 40 a f.body b hab⟩
 · cases hab
theorem uO {p:Pg} (h:Cq p=true):Gn (V1 p) (tkP p):=by
 obtain ⟨h1,h2⟩:=jX h
 exact (ZB M9 tkD p.data (fun d hd=>uK (h1 d hd))).a (ZB Oy tkF p.SI (fun f hf=>yE (h2 f hf).1 (h2 f hf).2))
theorem rV {s:Str} {ks:List KT} (h:Gn s ks) (hl:s.length≤16384):(BN s).2.2=0∧strip (BN s).1=ks++[(6,[])]:=by
 unfold BN
 rw [if_neg (by omega)]
 obtain ⟨n,i,acc,e1,e2,e3⟩:=h [] (s.length+1) 0 [] (by simp)
 rw [AY] at e3
 rw [e3]
 cases n with
 |zero=>simp at e2
 |succ n=>
  rw [D9]
  refine ⟨rfl,?_⟩
  show strip (acc++[⟨6,[],i⟩])=_
  rw [strip,Bg]
  rw [strip] at e1
  rw [e1];rfl
end Go.Ab
namespace Go.Ab
def hdT (k:List KT):Str:=(k.headD (6,[])).2
def hdK (k:List KT):Int:=(k.headD (6,[])).1
def noT (l:List Str) (k:List KT):Prop:=l.contains (hdT k)=false
def Rd {α:Type} (N:Nat) (m:PM α) (a:α) (ks:List KT) (K:List KT→Prop):Prop:=
 ∀r p k,r.length≤N→r.length≤17000→strip r=ks++k→K k→m.run ⟨r,false,p⟩=(a,⟨r.drop ks.length,false,p⟩)
def Ac (N:Nat) (m:PM Ex) (c:Nat→Ex→PM Ex) (e:Ex) (ks:List KT) (K:List KT→Prop):Prop:=
 ∃j,j≤ks.length∧∀r p k,r.length≤N→r.length≤17000→strip r=ks++k→K k→m.run ⟨r,false,p⟩=(c (BL - j) e).run ⟨r.drop ks.length,false,p⟩
variable {α β:Type} {N:Nat} {K:List KT→Prop}
theorem Pk (r:List Tok):(strip r).length=r.length:=by simp [strip]
theorem Kh {r:List Tok} {ks k:List KT} (h:strip r=ks++k):strip (r.drop ks.length)=k:=by
 have:=congrArg (GN ks.length) h
 rw [List.drop_left] at this
 rw [← this,strip,strip,List.map_drop]
theorem Gl {r:List Tok} {k:List KT} (h:strip r=k):(r.headD Uu).text=hdT k∧(r.headD Uu).kind=hdK k:=by
 subst h
 cases r with
 |nil=>exact ⟨rfl,rfl⟩
 |cons t l=>exact ⟨rfl,rfl⟩
theorem Rd.mono {m:PM α} {a:α} {ks:List KT} {M:Nat} (h:Rd N m a ks K) (hM:M≤N):Rd M m a ks K:=fun r p k h1=>h r p k (BC h1 hM)
theorem Rd.imp {m:PM α} {a:α} {ks:List KT} {K':List KT→Prop} (h:Rd N m a ks K) (hK:∀k,K' k→K k):Rd N m a ks K':=fun r p k h1 h2 h3 h4=>h r p k h1 h2 h3 (hK k h4)
theorem Rd.pure (a:α):Rd N (.pure a) a [] K:=fun _ _ _ _ _ _ _=>rfl
theorem Rd.bind {m:PM α} {f:α→PM β} {a:α} {b:β} {k1 k2:List KT} {K1:List KT→Prop} (h1:Rd N m a k1 K1) (h2:Rd (N - k1.length) (f a) b k2 K) (hK:∀k,K k→K1 (k2++k)):Rd N (m.bind f) b (k1++k2) K:=fun r p k hN hL hs hk=>by
 rw [AS] at hs
 have e1:=h1 r p (k2++k) hN hL hs (hK k hk)
 have e2:=h2 (r.drop k1.length) p k (by rw [Ao];omega) (by rw [Ao];omega) (Kh hs) hk
 show (f (m.run ⟨r,false,p⟩).1).run (m.run ⟨r,false,p⟩).2=_
 rw [e1]
 show (f a).run ⟨r.drop k1.length,false,p⟩=_
 rw [e2,CN,AA]
theorem Rd.C8 {m:PM α} {f:α→PM β} {a:α} {b:β} {q:KT} {k2:List KT} {K1:List KT→Prop} (h1:Rd N m a [q] K1) (h2:Rd (N - 1) (f a) b k2 K) (hK:∀k,K k→K1 (k2++k)):Rd N (m.bind f) b (q::k2) K:=Rd.bind h1 h2 hK
theorem Rd.map {m:PM α} {a:α} {ks:List KT} (g:α→β) (h:Rd N m a ks K):Rd N (m.map g) (g a) ks K:=by
 have:=Rd.bind (f:=fun a=>PM.pure (g a)) h (Rd.pure (K:=K) (g a)) (fun k h=>h)
 rwa [AY] at this
theorem Rd.CX {t:Str} {ht:t≠[]} {y n:PM α} {a:α} {ks:List KT} (q:Int) (h:Rd (N - 1) y a ks K):Rd N (.acc t ht y n) a ((q,t)::ks) K:=fun r p k hN hL hs hk=>by
 have hh:=(Gl hs).1
 rw [vE (by rw [hh];simp [hdT])]
 have e:=h r.tail p k (by rw [List.length_tail];omega) (by rw [List.length_tail];omega) (by have:=Kh (ks:=[(q,t)]) hs;simpa using this) hk
 rw [e,AB,← List.drop_one,CN,Nat.add_comm]
theorem Rd.B5 {t:Str} {ht:t≠[]} {y n:PM α} {a:α} {ks:List KT} (hn:∀k,K k→hdT (ks++k)≠t) (h:Rd N n a ks K):Rd N (.acc t ht y n) a ks K:=fun r p k hN hL hs hk=>by
 have hh:=(Gl hs).1
 rw [Sj (by rw [hh];simpa using hn k hk)]
 exact h r p k hN hL hs hk
theorem Rd.Yw {k0:Int} {y n:PM α} {a:α} {t:Str} {ks:List KT} (h:Rd N y a ((k0,t)::ks) K):Rd N (.kind k0 y n) a ((k0,t)::ks) K:=fun r p k hN hL hs hk=>by
 have hh:=(Gl hs).2
 have e:(PM.kind k0 y n).run ⟨r,false,p⟩=y.run ⟨r,false,p⟩:=if_pos (by rw [PSt.hd,hh];simp [hdK])
 rw [e];exact h r p k hN hL hs hk
theorem Rd.C9 {k0:Int} {y n:PM α} {a:α} {ks:List KT} (hn:∀k,K k→hdK (ks++k)≠k0) (h:Rd N n a ks K):Rd N (.kind k0 y n) a ks K:=fun r p k hN hL hs hk=>by
 have hh:=(Gl hs).2
 have e:(PM.kind k0 y n).run ⟨r,false,p⟩=n.run ⟨r,false,p⟩:=if_neg (by rw [PSt.hd,hh];simpa using hn k hk)
 rw [e];exact h r p k hN hL hs hk
theorem drop1 (r:List Tok):r.drop 1=r.tail:=List.drop_one
theorem Rd.exp {t:Str} {ht:t≠[]} (q:Int):Rd N (PM.exp t ht) () [(q,t)] K:=fun r p k _ _ hs _=>by
 have hh:=(Gl hs).1
 have e:(PM.exp t ht).run ⟨r,false,p⟩=((),⟨r.tail,false,p⟩):=if_pos (by simp only [PSt.hd,hh];simp [hdT])
 rw [e,← drop1];rfl
theorem Rd.take {q:Int} {hq:q≠6} (s:Str):Rd N (PM.take q hq) s [(q,s)] K:=fun r p k _ _ hs _=>by
 obtain ⟨h1,h2⟩:=Gl hs
 have e:(PM.take q hq).run ⟨r,false,p⟩=((r.headD Uu).text,⟨r.tail,false,p⟩):=if_pos (by simp only [PSt.hd,h2];simp [hdK])
 rw [e,h1,← drop1];rfl
def cZ (sep:Str) (g:α→List KT) (xs:List α):List KT:=(xs.map fun x=>(5,sep)::g x).flatten
theorem Yr (sep:Str) (g:α→List KT):∀(x:α) (xs:List α),[((5:Int),sep)].intercalate ((x::xs).map g)=g x++cZ sep g xs
 |x,[]=>by simp [cZ]
 |x,y::xs=>by
  have ih:=Yr sep g y xs
  simp only [AG] at ih ⊢
  rw [eB,ih]
  simp [cZ]
theorem c8 (sep:Str) (g:α→List KT):∀xs:List α,xs.length≤(cZ sep g xs).length
 |[]=>A8 _
 |x::xs=>by
  have:=c8 sep g xs
  simp only [cZ,AG,Cn,AA,AB] at this ⊢;omega
theorem bI {read:PM α} {sep:Str} {hsep:sep≠[]} {g:α→List KT} {Kr:List KT→Prop} (h5:∀k,Kr ((5,sep)::k)):∀(xs:List α) (n:Nat) (acc:List α) (N:Nat),xs.length≤n→(∀x∈xs,∀M,M≤N→Rd M read x (g x) Kr)→Rd N (E8 read sep hsep n acc) (acc++xs) (cZ sep g xs) (fun k=>Kr k∧hdT k≠sep)
 |[],n,acc,N,_,_=>by
  rw [AY]
  cases n with
  |zero=>exact Rd.pure _
  |succ n=>exact Rd.B5 (fun k hk=>hk.2) (Rd.pure _)
 |x::xs,0,acc,N,h,_=>by simp at h
 |x::xs,n+1,acc,N,h,hr=>by
  have ih:=bI (hsep:=hsep) h5 xs n (acc++[x]) (N - 1 - (g x).length) (by simp at h;omega) (fun y hy M hM=>hr y (An _ hy) M (by omega))
  rw [AS] at ih
  refine Rd.CX 5 (Rd.bind (hr x (Ag ..) (N - 1) (by omega)) ih (fun k hk=>?_))
  cases xs with
  |nil=>exact hk.1
  |cons y ys=>exact h5 _
theorem Xv {read:PM α} {sep:Str} {hsep:sep≠[]} {g:α→List KT} {Kr:List KT→Prop} (h5:∀k,Kr ((5,sep)::k)) {xs:List α} (hne:xs≠[]) (hr:∀x∈xs,∀M,M≤N→Rd M read x (g x) Kr):Rd N (items read sep hsep) xs ([((5:Int),sep)].intercalate (xs.map g)) (fun k=>Kr k∧hdT k≠sep):=by
 cases xs with
 |nil=>exact absurd rfl hne
 |cons x xs=>
  rw [Yr]
  intro r p k hN hL hs hk
  have hlen:xs.length≤BL:=by
   have h1:=c8 sep g xs
   have h2:=congrArg I8 hs
   rw [Pk,AA,AA] at h2
   have:=Fg
   omega
  refine Rd.bind (K1:=Kr) (hr x (Ag ..) N (A8 _)) (bI h5 xs BL [x] (N - (g x).length) hlen (fun y hy M hM=>hr y (An _ hy) M (by omega))) (fun k hk=>?_) r p k hN hL hs hk
  cases xs with
  |nil=>exact hk.1
  |cons y ys=>exact h5 _
theorem On {read:PM α} {g:α→List KT} {Kr:List KT→Prop} (h5:∀k,Kr ((5,[44])::k)) (h6:∀k,Kr ((5,[41])::k)) {xs:List α} (hne:xs≠[]) (hr:∀x∈xs,∀M,M≤N→Rd M read x (g x) Kr):Rd N (listed read) xs (cmK (xs.map g)++[(5,[41])]) K:=
 Rd.bind (Xv h5 hne hr) (Rd.C8 (Rd.exp 5) (Rd.pure xs) (fun _ h=>h)) (fun k _=>⟨h6 k,by simp [hdT]⟩)
theorem AAS {read:PM α} {g:α→List KT} {Kr:List KT→Prop} (h5:∀k,Kr ((5,[44])::k)) (h6:∀k,Kr ((5,[41])::k)) {xs:List α} (hne:xs≠[]) (hr:∀x∈xs,∀M,M+1≤N→Rd M read x (g x) Kr) (n:PM (List α)) (ht:[40]≠[]):Rd N (.acc [40] ht (listed read) n) xs (IH (cmK (xs.map g))) K:=by
 by_cases hN:N=0
 · subst hN
   intro r p k h1 _ hs _
   have:=congrArg I8 hs
   rw [Pk] at this
   simp [IH] at this
   omega
 · exact Rd.CX 5 (On h5 h6 hne (fun x hx M hM=>hr x hx M (by omega)))
theorem Xw {read:PM α} {g:α→List KT} {Kr:List KT→Prop} (h5:∀k,Kr ((5,[44])::k)) (h6:∀k,Kr ((5,[41])::k)) (xs:List α) (hr:∀x∈xs,∀M,M+1≤N→Rd M read x (g x) Kr):Rd N (I6 read) xs (Vi (xs.map g)) (fun k=>xs=[]→hdT k≠[40]):=by
 cases xs with
 |nil=>exact Rd.B5 (fun k hk=>hk rfl) (Rd.pure _)
 |cons x xs=>exact AAS h5 h6 (by simp) hr _ _
theorem dG {read:PM α} {g:α→List KT} {Kr:List KT→Prop} (h5:∀k,Kr ((5,[44])::k)) (h6:∀k,Kr ((5,[41])::k)) (xs:List α) (hr:∀x∈xs,∀M,M≤N→Rd M read x (g x) Kr) (hh:∀x∈xs,∀k,hdT (g x++k)≠[41]):Rd N (closed read) xs (cmK (xs.map g)++[(5,[41])]) K:=by
 cases xs with
 |nil=>exact Rd.CX 5 (Rd.pure _)
 |cons x xs=>
  refine Rd.B5 (fun k _=>?_) (On h5 h6 (by simp) hr)
  rw [cmK,Yr,AS,AS]
  exact hh x (Ag ..) _
theorem oZ {s:Str} {k:Int} (hk:k=1∨k=2) (h:GY k s=true):OR s=false:=by
 have:∀t,De s= .ok (k,t)→t=s→OR s=false:=fun t ht e=>by
  subst e
  obtain ⟨h1,_,_⟩:=Z9 0 ht
  rcases h1 with ⟨_,h⟩|h|h|h
  · exact h
  · simp only at h;omega
  · simp only at h;omega
  · have:=h.1;simp only at this;omega
 rcases hk with rfl|rfl
 · obtain ⟨b,r,rfl,h1,h2,h3,h4⟩:=ZE h
   refine this (b::r) ?_ rfl
   have ht:=fL (p:=CT GZ) (s:=b::r) (rest:=[]) h2 (fun _ _ e=>by cases e)
   rw [AY] at ht
   rw [De,ht,h1,(WW h1).2.2,h4,decide_eq_false (by omega)];rfl
 · obtain ⟨b,r,rfl,h1,h2,h3⟩:=Wg h
   refine this (b::r) ?_ rfl
   have ht:=fL (p:=CT GZ) (s:=b::r) (rest:=[]) h2 (fun _ _ e=>by cases e)
   rw [AY] at ht
   rw [De,ht,h1,decide_eq_false (by omega),Oi];rfl
theorem OS {s t:Str} (h:OR s=false) (ht:OR t=true):s≠t:=fun e=>by rw [e,ht] at h;cases h
theorem WY {s:Str} (h:DQ s=true):OR s=false:=oZ (.inl rfl) h
theorem oX {s:Str} (h:upperB s=true):OR s=false:=oZ (.inr rfl) h
theorem Rs {s:Str} (h:G3 s=true):Rd N Gd s (shK s) K:=by
 unfold shK
 split
 · rename_i e;subst e;exact Rd.CX 5 (Rd.pure _)
 · rename_i e
   simp only [G3,BX,beq_iff_eq] at h
   have hn:DQ s=true:=h.resolve_left e
   exact Rd.B5 (fun k _=>OS (WY hn) (by decide)) (Rd.take s)
end Go.Ab
namespace Go.Ab
variable {N:Nat} {K:List KT→Prop}
def noP (k:List KT):Prop:=hdT k≠[40]
theorem jT:∀ {d:Nat} {t:TE},Bf d t=true→∃q x l,IK t=(q,x)::l∧x≠[41]
 |0,.mk ..,h=>by cases h
 |d+1,.mk k n l,h=>by
  rw [Bf,AM] at h
  have h1:=h.1
  rw [IK,T1]
  rcases fE h1 with rfl|rfl|rfl|rfl|rfl|rfl|rfl|rfl|rfl
  · exact ⟨_,_,_,rfl,by decide⟩
  · exact ⟨_,_,_,rfl,by decide⟩
  · exact ⟨_,_,_,rfl,by decide⟩
  · simp [Bk] at h1;exact ⟨_,_,_,rfl,OS (WY h1.1) (by decide)⟩
  · simp [Bk] at h1;exact ⟨_,_,_,rfl,OS (oX h1.1) (by decide)⟩
  · simp [Bk] at h1
    cases l with
    |nil=>simp at h1
    |cons a l=>exact ⟨_,_,_,rfl,by decide⟩
  · exact ⟨_,_,_,rfl,by decide⟩
  · exact ⟨_,_,_,rfl,by decide⟩
  · exact ⟨_,_,_,rfl,by decide⟩
theorem kX {q:Int} {x:Str} {l:List KT} {ks:List KT} (h:ks=(q,x)::l) (k:List KT):hdT (ks++k)=x∧hdK (ks++k)=q:=by
 subst h;exact ⟨rfl,rfl⟩
theorem VD {α:Type} {m:PM α} {a:α} {q:Int} {x:Str} {l ks:List KT} (h:ks=(q,x)::l):Rd 0 m a ks K:=fun r p k h1 _ hs _=>by
 have:=congrArg I8 hs
 rw [Pk,h] at this
 simp at this;omega
theorem JG {α:Type} {m:PM α} {a:α} {ks:List KT} (h:ks≠[]):Rd 0 m a ks K:=by
 cases ks with
 |nil=>exact absurd rfl h
 |cons x l=>exact VD (q:=x.1) (x:=x.2) (l:=l) rfl
theorem TP (x y:List KT) (l:List (List KT)):cmK (x::y::l)=x++((5,[44])::cmK (y::l)):=by
 unfold cmK;rw [eB];rfl
theorem VT (x:List KT):cmK [x]=x:=nU _ x
theorem sJ:∀(d:Nat) (t:TE),Bf d t=true→∀n N,N≤n→Rd N (GA n) t (IK t) noP
 |0,.mk ..,h,_,_,_=>by cases h
 |d+1,.mk k nm l,h,0,N,hN=>by
  obtain ⟨q,x,r,e,_⟩:=jT h
  have:N=0:=by omega
  subst this
  exact VD e
 |d+1,.mk k nm l,h,n+1,N,hN=>by
  rw [Bf,AM,A4] at h
  obtain ⟨h1,h2⟩:=h
  have ih:=fun x (hx:x∈l) M (hM:M+1≤N)=>sJ d x (h2 x hx) n M (by omega)
  have h5:∀k:List KT,noP ((5,[44])::k):=fun k=>by simp [noP,hdT]
  have h6:∀k:List KT,noP ((5,[41])::k):=fun k=>by simp [noP,hdT]
  rw [GA,IK,T1]
  rcases fE h1 with rfl|rfl|rfl|rfl|rfl|rfl|rfl|rfl|rfl
  · simp [Bk] at h1
    obtain ⟨rfl,rfl⟩:=h1
    exact Rd.C9 (fun k _=>by simp [N9,hdK]) (Rd.C9 (fun k _=>by simp [N9,hdK]) (Rd.CX 4 (Rd.pure _)))
  · simp [Bk] at h1
    obtain ⟨rfl,rfl⟩:=h1
    exact Rd.C9 (fun k _=>by simp [N9,hdK]) (Rd.C9 (fun k _=>by simp [N9,hdK]) (Rd.B5 (fun k _=>by simp [N9,hdT]) (Rd.CX 4 (Rd.pure _))))
  · simp [Bk] at h1
    obtain ⟨rfl,rfl⟩:=h1
    exact Rd.C9 (fun k _=>by simp [N9,hdK]) (Rd.C9 (fun k _=>by simp [N9,hdK]) (Rd.B5 (fun k _=>by simp [N9,hdT]) (Rd.B5 (fun k _=>by simp [N9,hdT]) (Rd.CX 4 (Rd.pure _)))))
  · simp [Bk] at h1
    obtain ⟨h1,rfl⟩:=h1
    exact Rd.Yw (Rd.map (fun x=>TE.mk 4 x []) (Rd.take nm))
  · exact Rd.C9 (fun k _=>by simp [N9,hdK]) (Rd.Yw (Rd.C8 (K1:=fun _=>True) (Rd.take nm) (Rd.map (fun l=>TE.mk 5 nm l) ((Xw (N:=N - 1) h5 h6 l (fun x hx M hM=>ih x hx M (by omega))).imp (fun k hk _=>hk))) (fun _ _=>trivial)))
  · simp [Bk] at h1
    match l,h1,h2,ih with
    |a::b::l,h1,h2,ih=>
     have hs:N9 6 nm ((a::b::l).map IK)=(5,[40])::(IK a++((5,[44])::(cmK ((b::l).map IK)++[(5,[41])]))):=by
      show IH (cmK (IK a::IK b::l.map IK))=_
      rw [TP,IH,AS];rfl
     rw [hs,h1.1.1]
     refine Rd.C9 (fun k _=>by simp [hdK]) (Rd.C9 (fun k _=>by simp [hdK]) (Rd.B5 (fun k _=>by simp [hdT]) (Rd.B5 (fun k _=>by simp [hdT]) (Rd.B5 (fun k _=>by simp [hdT]) (Rd.B5 (fun k _=>by simp [hdT]) (Rd.B5 (fun k _=>by simp [hdT]) (Rd.CX 5 ?_)))))))
     by_cases hN0:N=0
     · subst hN0
       obtain ⟨q,x,r,e,_⟩:=jT (h2 a (by simp))
       refine VD (q:=q) (x:=x) (l:=r++((5,[44])::(cmK ((b::l).map IK)++[(5,[41])]))) ?_
       rw [e];rfl
     · exact Rd.bind (ih a (by simp) (N - 1) (by omega)) (Rd.C8 (K1:=fun _=>True) (Rd.exp 5) (Rd.map (fun l=>TE.mk 6 [] (a::l)) (On h5 h6 (by simp) (fun x hx M hM=>ih x (An _ hx) M (by omega)))) (fun _ _=>trivial)) (fun k _=>h5 _)
  · simp [Bk] at h1
    obtain ⟨rfl,hl⟩:=h1
    obtain ⟨a,rfl⟩:=Ui hl
    have hs:N9 7 [] ([a].map IK)=(4,[97,114,114,97,121])::(5,[40])::(IK a++[(5,[41])]):=by
     show (4,[97,114,114,97,121])::IH (cmK [IK a])=_
     rw [VT];rfl
    rw [hs]
    refine Rd.C9 (fun k _=>by simp [hdK]) (Rd.C9 (fun k _=>by simp [hdK]) (Rd.B5 (fun k _=>by simp [hdT]) (Rd.B5 (fun k _=>by simp [hdT]) (Rd.B5 (fun k _=>by simp [hdT]) (Rd.CX 4 (Rd.C8 (K1:=fun _=>True) (Rd.exp 5) ?_ (fun _ _=>trivial)))))))
    by_cases hN0:N=0
    · subst hN0
      obtain ⟨q,x,r,e,_⟩:=jT (h2 a (by simp))
      exact VD (by rw [e];rfl)
    · exact Rd.bind (ih a (by simp) (N - 1 - 1) (by omega)) (Rd.C8 (K1:=fun _=>True) (Rd.exp 5) (Rd.pure _) (fun _ _=>trivial)) (fun k _=>h6 _)
  · simp [Bk] at h1
    obtain ⟨rfl,hl⟩:=h1
    obtain ⟨a,rfl⟩:=Ui hl
    have hs:N9 8 [] ([a].map IK)=(4,[114,101,102])::(5,[40])::(IK a++[(5,[41])]):=by
     show (4,[114,101,102])::IH (cmK [IK a])=_
     rw [VT];rfl
    rw [hs]
    refine Rd.C9 (fun k _=>by simp [hdK]) (Rd.C9 (fun k _=>by simp [hdK]) (Rd.B5 (fun k _=>by simp [hdT]) (Rd.B5 (fun k _=>by simp [hdT]) (Rd.B5 (fun k _=>by simp [hdT]) (Rd.B5 (fun k _=>by simp [hdT]) (Rd.CX 4 (Rd.C8 (K1:=fun _=>True) (Rd.exp 5) ?_ (fun _ _=>trivial))))))))
    by_cases hN0:N=0
    · subst hN0
      obtain ⟨q,x,r,e,_⟩:=jT (h2 a (by simp))
      exact VD (by rw [e];rfl)
    · exact Rd.bind (ih a (by simp) (N - 1 - 1) (by omega)) (Rd.C8 (K1:=fun _=>True) (Rd.exp 5) (Rd.pure _) (fun _ _=>trivial)) (fun k _=>h6 _)
  · simp [Bk] at h1
    obtain ⟨⟨rfl,hl⟩,_⟩:=h1
    obtain ⟨m,x,rfl⟩:=Uh hl
    have hs:N9 9 [] ((m++[x]).map IK)=(4,[102,110])::(5,[40])::((cmK (m.map IK)++[(5,[41])])++((5,[45,62])::IK x)):=by
     show (4,[102,110])::(Lx ((m++[x]).map IK).dropLast++((5,[45,62])::((m++[x]).map IK).getLastD []))=_
     simp only [Bg,AG,AH,Rq,Rr]
     rfl
    rw [hs]
    refine Rd.C9 (fun k _=>by simp [hdK]) (Rd.C9 (fun k _=>by simp [hdK]) (Rd.B5 (fun k _=>by simp [hdT]) (Rd.B5 (fun k _=>by simp [hdT]) (Rd.B5 (fun k _=>by simp [hdT]) (Rd.B5 (fun k _=>by simp [hdT]) (Rd.B5 (fun k _=>by simp [hdT]) (Rd.B5 (fun k _=>by simp [hdT]) (Rd.CX 4 (Rd.C8 (K1:=fun _=>True) (Rd.exp 5) ?_ (fun _ _=>trivial))))))))))
    by_cases hN0:N=0
    · subst hN0
      exact JG (by simp)
    · refine Rd.bind (K1:=fun _=>True) (dG h5 h6 m (fun y hy M hM=>ih y (List.mem_append_left _ hy) M (by omega)) (fun y hy k=>?_)) (Rd.C8 (K1:=fun _=>True) (Rd.exp 5) (Rd.map (fun t=>TE.mk 9 [] (m++[t])) (ih x (by simp) _ (by omega))) (fun _ _=>trivial)) (fun _ _=>trivial)
      obtain ⟨q,z,r,e,hz⟩:=jT (h2 y (List.mem_append_left _ hy))
      rw [(kX e k).1];exact hz
theorem AAQ {c:CE} (h:QC c=true) (hN:N≤BL):Rd N iK c (tkC c) noP:=by
 simp only [QC,AM,A4] at h
 refine Rd.C8 (K1:=fun _=>True) (Rd.take c.name) (Rd.map (fun l=>CE.mk c.name l) ((Xw (Kr:=noP) (fun k=>by simp [noP,hdT]) (fun k=>by simp [noP,hdT]) c.args (fun x hx M hM=>sJ 40 x (h.2 x hx) BL M (by omega))).imp (fun k hk _=>hk))) (fun _ _=>trivial)
theorem w3 {d:DE} (h:G8 d=true) (hN:N≤BL):Rd N UQ d ((2,d.name)::(Vi (d.vars.map fun s=>[(1,s)])++((5,[61])::([((5:Int),[124])].intercalate (d.cons.map tkC)++[(5,[59])])))) K:=by
 simp only [G8,AM,A4,decide_eq_true_eq] at h
 obtain ⟨⟨⟨⟨⟨h1,h2⟩,h3⟩,h4⟩,h5⟩,h6⟩:=h
 have hne:d.cons≠[]:=by intro e;rw [e] at h4;simp at h4
 refine Rd.C8 (K1:=fun _=>True) (Rd.take d.name) (Rd.bind (Xw (Kr:=fun _=>True) (g:=fun s=>[(1,s)]) (fun _=>trivial) (fun _=>trivial) d.vars (fun s hs M _=>Rd.take s)) (Rd.C8 (K1:=fun _=>True) (Rd.exp 5) (Rd.bind (Xv (g:=tkC) (Kr:=noP) (fun k=>by simp [noP,hdT]) hne (fun c hc M hM=>AAQ (h6 c hc) (by omega))) (Rd.C8 (K1:=fun _=>True) (Rd.exp 5) (Rd.pure _) (fun _ _=>trivial)) (fun k _=>⟨by simp [noP,hdT],by simp [hdT]⟩)) (fun _ _=>trivial)) (fun k _ _=>by simp [hdT])) (fun _ _=>trivial)
end Go.Ab
