/- The tokens of formatted programs, in plain data. Reading the tokens of a formatted text back, in plain data: the rules. Conditions: none. -/
import Derived.Test.YtifplkldbbcldaaGreatDoorXQf
set_option linter.unusedSimpArgs false
set_option linter.unusedVariables false
set_option maxRecDepth 4000
set_option maxHeartbeats 8000000
open Bool renaming and_eq_true→AN,or_true→OW,or_eq_true→BT
open List renaming all_eq_true→A6,append_nil→AZ,map_append→Bm,map_cons→AF,map_nil→AI,mem_cons_of_mem→Ah,mem_cons_self→Ae,mem_cons→CN,drop→Gl,append_assoc→AT,length_drop→Ai,drop_drop→CD,length_append→AA,length_cons→AE,flatten_cons→Ce,length→RW
open Option renaming isSome_iff_exists→W4
open Nat renaming le_trans→BD,le_refl→A7
namespace Go.Ab
def NS (k:Int) (n:Str) (ts:List (List KT)):List KT:=
 if k=1 then [(4,[105,110,116])] else if k=2 then [(4,[98,111,111,108])] else if k=3 then [(4,[117,110,105,116])]
                                                                                             else if k=7 then (4,[97,114,114,97,121])::VC ts else if k=8 then (4,[114,101,102])::VC ts
                                                                                             else if k=9 then (4,[102,110])::(Le ts.dropLast++((5,[45,62])::ts.getLastD []))
                                                                                             else if k=4 then [(1,n)] else if k=5 then (2,n)::VC ts else VC ts
mutual
def Hy:TE→List KT
 | .mk k n l=>NS k n (mB l)
def mB:List TE→List (List KT)
 |[]=>[]
 |t::l=>Hy t::mB l
end
theorem Sp:∀l:List TE,mB l=l.map Hy
 |[]=>rfl
 |t::l=>by rw [mB,Sp l];rfl
theorem c8 {k:Int} {n:Str} {q:Nat} (h:Co k n q=true):k=1∨k=2∨k=3∨k=4∨k=5∨k=6∨k=7∨k=8∨k=9:=by
 unfold Co at h
 split at h
 · omega
 · split at h
   · omega
   · split at h
     · omega
     · split at h
       · omega
       · split at h
         · omega
         · split at h
           · omega
           · cases h
theorem UJ {α:Type}:∀ {l:List α},1≤l.length→∃m x,l=m++[x]
 |[],h=>by simp at h
 |[x],_=>⟨[],x,rfl⟩
 |x::y::l,_=>by
  obtain ⟨m,z,e⟩:=UJ (l:=y::l) (by simp)
  exact ⟨x::m,z,by rw [e];rfl⟩
theorem rX:∀(d:Nat) (t:TE),Bl d t=true→FA (Cr t) (Hy t)
 |0,.mk ..,h=>by cases h
 |d+1,.mk k n l,h=>by
  rw [Bl,AN,A6] at h
  obtain ⟨h1,h2⟩:=h
  have hl:=fun x hx=>rX d x (h2 x hx)
  rw [Cr,Hy,Ph,Sp]
  have ho:=Sl Cr Hy l hl
  have hk:=c8 h1
  rcases hk with rfl|rfl|rfl|rfl|rfl|rfl|rfl|rfl|rfl
  · exact UI (s:=[105,110,116]) (by decide)
  · exact UI (s:=[98,111,111,108]) (by decide)
  · exact UI (s:=[117,110,105,116]) (by decide)
  · simp [Co] at h1
    obtain ⟨h1,h3⟩:=h1
    subst h3
    show FA (n++[]) [(1,n)]
    rw [AZ]
    exact ND h1
  · simp [Co] at h1
    exact (Oo h1.1).ss (by have:=NP (l.map Cr) (r:=[]) rfl;rwa [AZ] at this) ho.s
  · simp [Co] at h1
    rw [h1.1.1]
    exact ho.s
  · exact (UI (s:=[97,114,114,97,121]) (by decide)).ss (by have:=NP (l.map Cr) (r:=[]) rfl;rwa [AZ] at this) ho.s
  · exact (UI (s:=[114,101,102]) (by decide)).ss (by have:=NP (l.map Cr) (r:=[]) rfl;rwa [AZ] at this) ho.s
  · simp [Co] at h1
    obtain ⟨m,x,rfl⟩:=UJ h1.1.2
    have hm:=Uw Cr Hy m (fun y hy=>hl y (List.mem_append_left _ hy))
    have hx:=hl x (by simp)
    show FA ([102,110]++(Il ((m++[x]).map Cr).dropLast++([32,45,62,32]++((m++[x]).map Cr).getLastD []))) ((4,[102,110])::(Le ((m++[x]).map Hy).dropLast++((5,[45,62])::((m++[x]).map Hy).getLastD [])))
    simp only [Bm,AF,AI,List.dropLast_concat,List.getLastD_concat]
    exact (UI (s:=[102,110]) (by decide)).ss rfl (hm.ss (Sk.ss hx))
def atK (l:List (List KT)) (i:Nat):List KT:=l.getD i []
def plK (d:Nat) (k:Ex) (t:List KT):List KT:=if lvl k < d then Hu t else t
def ACD (ks:List Ex) (ts:List (List KT)):List KT:=match ks with
 |[]=>Le ts.tail
 |k::_=>(if Mc k then Hu (atK ts 0) else plK 4 k (atK ts 0))++Le ts.tail
def ACE (u:Int) (ks:List Ex) (ts:List (List KT)):List KT:=match ks with
 |[a,b]=>plK (if Eb u=1 then 2 else Eb u) a (atK ts 0)++((5,opT u)::plK (if Eb u=1 then 2 else Eb u+1) b (atK ts 1))
 |_=>[]
def tkN (o:Int) (n:Str) (u:Int) (ns:List Str) (ks:List Ex) (ts:List (List KT)) (aks:List (List KT)):List KT:=
 if o=7 then (4,[108,101,116])::(shK n++((5,[61])::(atK ts 0++((4,[105,110])::atK ts 1))))
                                                                 else if o=8 then (4,[108,101,116])::(VC (ns.map shK)++((5,[61])::(atK ts 0++((4,[105,110])::atK ts 1))))
                                                                 else if o=9 then (4,[105,102])::(atK ts 0++((4,[116,104,101,110])::(atK ts 1++((4,[101,108,115,101])::atK ts 2))))
                                                                 else if o=10 then (4,[109,97,116,99,104])::(atK ts 0++((4,[119,105,116,104])::([(5,[124])].intercalate aks++[(4,[101,110,100])])))
                                                                 else if o=11 then (4,[102,110])::(Le (ns.map fun s=>[(1,s)])++((5,[45,62])::atK ts 0))
                                                                 else if o=17 then (4,[116,114,121])::(atK ts 0++((4,[99,97,116,99,104])::(shK n++((5,[45,62])::(atK ts 1++[(4,[101,110,100])])))))
                                                                 else if o=13 then ACE u ks ts
                                                                 else if o=12 then ACD ks ts
                                                                 else if o=1 then [(5,[40]),(5,[41])]
                                                                 else if o=2 then (if u=1 then [(4,[116,114,117,101])] else [(4,[102,97,108,115,101])])
                                                                 else if o=3 then Tm u
                                                                 else if o=5 then Le ts
                                                                 else if o=14 then (4,prT u)::Le ts
                                                                 else if o=16 then (4,[114,97,105,115,101])::Le ts
                                                                 else if o=15 then (4,[116,105,99,107])::Hu (Tm u)
                                                                 else if o=4 then [(1,n)]
                                                                 else (2,n)::VC ts
def AAI (c:Str) (vs:List Str) (b:List KT):List KT:=(2,c)::(VC (vs.map shK)++((5,[45,62])::b))
mutual
def tkE:Ex→List KT
 | .mk o n u ns ks al=>tkN o n u ns ks (w4 ks) (w3 al)
def w4:List Ex→List (List KT)
 |[]=>[]
 |t::l=>tkE t::w4 l
def tkA:Al→List KT
 | .mk c vs b=>AAI c vs (tkE b)
def w3:List Al→List (List KT)
 |[]=>[]
 |t::l=>tkA t::w3 l
end
theorem NR:∀l:List Ex,w4 l=l.map tkE
 |[]=>rfl
 |t::l=>by rw [w4,NR l];rfl
theorem NQ:∀l:List Al,w3 l=l.map tkA
 |[]=>rfl
 |t::l=>by rw [w3,NQ l];rfl
theorem lP {o u:Int} {q:Nat} (h:nkB o u q=true):o=1∨o=2∨o=3∨o=4∨o=5∨o=6∨o=7∨o=8∨o=9∨o=10∨o=11∨o=12∨o=13∨o=14∨o=15∨o=16∨o=17:=by
 unfold nkB at h
 repeat' (split at h)
 all_goals first|omega|cases h
theorem jJ {d:Nat} {k:Ex} {t:Str} {q:List KT} (h:FA t q):FA (pl d k t) (plK d k q):=by
 unfold pl plK
 split
 · exact (Ux h).s
 · exact h
theorem Zr {l:List Str} (h:l.all GM=true):∀s∈l,FA (shown s) (shK s):=fun s hs=>Vf (A6.1 h s hs)
theorem zU {u:Int} (h1:1≤u) (h2:u≤8):FA (opT u) [(5,opT u)]:=by
 have h:u=1∨u=2∨u=3∨u=4∨u=5∨u=6∨u=7∨u=8:=by omega
 rcases h with rfl|rfl|rfl|rfl|rfl|rfl|rfl|rfl
 · exact (JX [43] (by decide) (by decide)).s
 · exact fun r hr=>dA 45 (.inl rfl) (Yt hr)
 · exact (JX [42] (by decide) (by decide)).s
 · exact (JX [47] (by decide) (by decide)).s
 · exact (JX [37] (by decide) (by decide)).s
 · exact fun r hr=>dA 60 (.inr (.inl rfl)) (Yt hr)
 · exact (JX [60,61] (by decide) (by decide)).s
 · exact (JX [61,61] (by decide) (by decide)).s
theorem rU {u:Int}:FA (prT u) [(4,prT u)]:=by
 unfold prT
 repeat' split
 all_goals exact UI (by decide)
theorem Wi {α:Type} {l:List α} (h:l.length=1):∃a,l=[a]:=by
 match l,h with
 |[a],_=>exact ⟨a,rfl⟩
theorem TG {α:Type} {l:List α} (h:l.length=2):∃a b,l=[a,b]:=by
 match l,h with
 |[a,b],_=>exact ⟨a,b,rfl⟩
theorem jH {α:Type} {l:List α} (h:l.length=3):∃a b c,l=[a,b,c]:=by
 match l,h with
 |[a,b,c],_=>exact ⟨a,b,c,rfl⟩
theorem rT (o:Int) (n:Str) (u:Int) (ns:List Str) (ks:List Ex) (al:List Al) (hn:GU o n u ns ks.length al=true) (hk:∀x∈ks,FA (Az x) (tkE x)) (ha:∀x∈al,FA (Mr x) (tkA x)):FA (Az (.mk o n u ns ks al)) (tkE (.mk o n u ns ks al)):=by
 simp only [GU,AN] at hn
 obtain ⟨⟨⟨⟨hnm,hnu⟩,hns⟩,has⟩,hnk⟩:=hn
 rw [Az,tkE,M6,NR,V4,NQ]
 have hl:=Uw Az tkE ks hk
 have ho:=Sl Az tkE ks hk
 rcases lP hnk with rfl|rfl|rfl|rfl|rfl|rfl|rfl|rfl|rfl|rfl|rfl|rfl|rfl|rfl|rfl|rfl|rfl
 · exact (rS.a rW).s
 · show FA (if u=1 then [116,114,117,101] else [102,97,108,115,101]) (if u=1 then [(4,[116,114,117,101])] else [(4,[102,97,108,115,101])])
   split
   · exact UI (by decide)
   · exact UI (by decide)
 · simp [nuB] at hnu
   exact eZ hnu.1 hnu.2
 · have:ks=[]:=by simpa [nkB] using hnk
   subst this
   show FA (n++[]) [(1,n)]
   rw [AZ]
   exact ND (by simpa [nmB] using hnm)
 · exact hl.s
 · exact (Oo (by simpa [nmB] using hnm)).ss (by have:=NP (ks.map Az) (r:=[]) rfl;rwa [AZ] at this) ho.s
 · obtain ⟨a,b,rfl⟩:=TG (by simpa [nkB] using hnk)
   exact (QA (s:=[108,101,116]) (by decide)).ss ((Vf (by simpa [nmB] using hnm)).ss rfl (cI.ss ((hk a (by simp)).ss rfl ((Ve (s:=[105,110]) (by decide)).ss (hk b (by simp))))))
 · obtain ⟨a,b,rfl⟩:=TG (by simpa [nkB] using hnk)
   simp only [nsB,if_true,AN] at hns
   exact (QA (s:=[108,101,116]) (by decide)).ss ((Sl shown shK ns (Zr hns.2)).ss (cI.ss ((hk a (by simp)).ss rfl ((Ve (s:=[105,110]) (by decide)).ss (hk b (by simp))))))
 · obtain ⟨a,b,c,rfl⟩:=jH (by simpa [nkB] using hnk)
   exact (QA (s:=[105,102]) (by decide)).ss ((hk a (by simp)).ss rfl ((Ve (s:=[116,104,101,110]) (by decide)).ss ((hk b (by simp)).ss rfl ((Ve (s:=[101,108,115,101]) (by decide)).ss (hk c (by simp))))))
 · obtain ⟨a,rfl⟩:=Wi (by simpa [nkB] using hnk)
   have hj:=Uv (sep:=[32,124,32]) (ks:=[(5,[124])]) (IQ.a ((JX [124] (by decide) (by decide)).a IQ)) rfl (by decide) Mr tkA al ha
   exact (QA (s:=[109,97,116,99,104]) (by decide)).ss ((hk a (by simp)).ss rfl ((Ve (s:=[119,105,116,104]) (by decide)).ss (hj.ss rfl (lJ (s:=[101,110,100]) (by decide)))))
 · obtain ⟨a,rfl⟩:=Wi (by simpa [nkB] using hnk)
   simp [nsB] at hns
   have hp:=Uw id (fun s=>[(1,s)]) ns (fun s hs=>ND (hns.2 s hs))
   rw [List.map_id] at hp
   exact (UI (s:=[102,110]) (by decide)).ss rfl (hp.ss (Sk.ss (hk a (by simp))))
 · cases ks with
   |nil=>simp [nkB] at hnk
   |cons f l=>
    have hl2:=Uw Az tkE l (fun x hx=>hk x (Ah _ hx))
    have hf:=hk f (Ae ..)
    show FA ((if Mc f then JT (Az f) else pl 4 f (Az f))++Il (l.map Az)) ((if Mc f then Hu (tkE f) else plK 4 f (tkE f))++Le (l.map tkE))
    refine FA.ss ?_ rfl hl2.s
    split
    · exact (Ux hf).s
    · exact jJ hf
 · obtain ⟨a,b,rfl⟩:=TG (by simpa [nkB] using hnk)
   simp [nuB] at hnu
   exact (jJ (hk a (by simp))).ss rfl (IQ.ss ((zU hnu.1 hnu.2).ss rfl (IQ.ss (jJ (hk b (by simp))))))
 · exact (rU (u:=u)).ss rfl hl.s
 · simp [nuB] at hnu
   exact (UI (s:=[116,105,99,107]) (by decide)).ss rfl (Ux (eZ (by omega) (by omega))).s
 · exact (UI (s:=[114,97,105,115,101]) (by decide)).ss rfl hl.s
 · obtain ⟨a,b,rfl⟩:=TG (by simpa [nkB] using hnk)
   exact (QA (s:=[116,114,121]) (by decide)).ss ((hk a (by simp)).ss rfl ((Ve (s:=[99,97,116,99,104]) (by decide)).ss ((Vf (by simpa [nmB] using hnm)).ss rfl (Sk.ss ((hk b (by simp)).ss rfl (lJ (s:=[101,110,100]) (by decide)))))))
theorem hP {o:Int} {al:List Al} (h:asB o al=true):∀a∈al,Mb a=true:=fun a ha=>by
 unfold asB at h
 split at h
 · simp only [AN,A6] at h;exact h.2 a ha
 · have:al=[]:=by simpa using h
   rw [this] at ha;cases ha
mutual
theorem jI:∀(e:Ex),e.nb→FA (Az e) (tkE e)
 | .mk o n u ns ks al,h=>by
  rw [Ex.nb] at h
  have h4:=h.1
  simp only [GU,AN] at h4
  exact rT o n u ns ks al h.1 (lK ks h.2.1) (lH al h.2.2 (hP h4.1.2))
theorem lK:∀(l:List Ex),Ex.nbs l→∀x∈l,FA (Az x) (tkE x)
 |[],_,x,hx=>by cases hx
 |k::l,h,x,hx=>by
  rw [Ex.nbs] at h
  have h1:=jI k h.1
  have h2:=lK l h.2
  rcases CN.1 hx with rfl|hx
  · exact h1
  · exact h2 x hx
theorem zS:∀(a:Al),a.nb→Mb a=true→FA (Mr a) (tkA a)
 | .mk c vs b,h,ha=>by
  rw [Al.nb] at h
  simp only [Mb,AN] at ha
  rw [Mr,tkA]
  exact (Oo ha.1.1).ss (NP _ rfl) ((Sl shown shK vs (Zr ha.2)).ss (Sk.ss (jI b h)))
theorem lH:∀(l:List Al),Al.nbs l→(∀a∈l,Mb a=true)→∀x∈l,FA (Mr x) (tkA x)
 |[],_,_,x,hx=>by cases hx
 |k::l,h,ha,x,hx=>by
  rw [Al.nbs] at h
  have h1:=zS k h.1 (ha _ (Ae ..))
  have h2:=lH l h.2 (fun a h=>ha a (Ah _ h))
  rcases CN.1 hx with rfl|hx
  · exact h1
  · exact h2 x hx
end
def tkC (c:CE):List KT:=(2,c.name)::VC (c.args.map Hy)
def tkD (d:DE):List KT:=(4,[100,97,116,97])::(2,d.name)::(VC (d.vars.map fun s=>[(1,s)])++((5,[61])::([(5,[124])].intercalate (d.cons.map tkC)++[(5,[59])])))
def tkF (f:FE):List KT:=(4,[102,117,110])::(1,f.name)::(Le (f.params.map fun s=>[(1,s)])++((5,[61])::(tkE f.body++[(5,[59])])))
def tkP (p:Pg):List KT:=(p.data.map tkD).flatten++(p.Rf.map tkF).flatten
theorem e5:G7 [59,10] [(5,[59])]:=(JX [59] (by decide) (by decide)).a zT
theorem vN {c:CE} (h:Rb c=true):FA (fmtC c) (tkC c):=by
 simp only [Rb,AN,A6] at h
 exact (Oo h.1.1).ss (by have:=NP (c.args.map Cr) (r:=[]) rfl;rwa [AZ] at this) (Sl Cr Hy c.args (fun t ht=>rX 40 t (h.2 t ht))).s
theorem rR {d:DE} (h:Ge d=true):G7 (UB d) (tkD d):=by
 simp only [Ge,AN,A6] at h
 obtain ⟨⟨⟨⟨⟨h1,h2⟩,h3⟩,h4⟩,h5⟩,h6⟩:=h
 have hp:=Sl id (fun s=>[(1,s)]) d.vars (fun s hs=>ND (h3 s hs))
 rw [List.map_id] at hp
 have hj:=Uv (sep:=[32,124,32]) (ks:=[(5,[124])]) (IQ.a ((JX [124] (by decide) (by decide)).a IQ)) rfl (by decide) fmtC tkC d.cons (fun c hc=>vN (h6 c hc))
 exact (QA (s:=[100,97,116,97]) (by decide)).a ((Oo h1).a (NP _ rfl) (by simp) (hp.a (cI.a (hj.a rfl (by decide) e5))))
theorem vO {f:FE} (h:Mw f=true) (hb:f.body.nb):G7 (V5 f) (tkF f):=by
 simp only [Mw,AN,A6] at h
 have hp:=Uw id (fun s=>[(1,s)]) f.params (fun s hs=>ND (h.2 s hs))
 rw [List.map_id] at hp
 exact (QA (s:=[102,117,110]) (by decide)).a ((ND h.1.1).a rfl (by simp [Il,JT]) (hp.a (cI.a ((jI _ hb).a rfl (by decide) e5))))
theorem YM {α:Type} (f:α→Str) (g:α→List KT):∀l:List α,(∀x∈l,G7 (f x) (g x))→G7 (l.map f).flatten (l.map g).flatten
 |[],_=>G7.nil
 |x::l,h=>(h x (Ae ..)).a (YM f g l (fun y hy=>h y (Ah _ hy)))
theorem gN {p:Pg} (h:DA p=true):(∀d∈p.data,Ge d=true)∧∀f∈p.Rf,Mw f=true∧f.body.nb:=by
 simp only [DA,AN,A6] at h
 obtain ⟨r,hr⟩:=W4.1 h.2
 refine ⟨h.1.2,O8 p.Rf 600 r (fun f _ a b hab=>?_) hr⟩
 unfold PX at hab
 split at hab
 · rename_i hh;exact ⟨hh,dH 40 a f.body b hab⟩
 · cases hab
theorem rV {p:Pg} (h:DA p=true):G7 (Wa p) (tkP p):=by
 obtain ⟨h1,h2⟩:=gN h
 exact (YM UB tkD p.data (fun d hd=>rR (h1 d hd))).a (YM V5 tkF p.Rf (fun f hf=>vO (h2 f hf).1 (h2 f hf).2))
theorem pA {s:Str} {ks:List KT} (h:G7 s ks) (hl:s.length≤16384):(BJ s).2.2=0∧strip (BJ s).1=ks++[(6,[])]:=by
 unfold BJ
 rw [if_neg (by omega)]
 obtain ⟨n,i,acc,e1,e2,e3⟩:=h [] (s.length+1) 0 [] (by simp)
 rw [AZ] at e3
 rw [e3]
 cases n with
 |zero=>simp at e2
 |succ n=>
  rw [DZ]
  refine ⟨rfl,?_⟩
  show strip (acc++[⟨6,[],i⟩])=_
  rw [strip,Bm]
  rw [strip] at e1
  rw [e1];rfl
end Go.Ab
namespace Go.Ab
def hdT (k:List KT):Str:=(k.headD (6,[])).2
def hdK (k:List KT):Int:=(k.headD (6,[])).1
def noT (l:List Str) (k:List KT):Prop:=l.contains (hdT k)=false
def Rd {α:Type} (N:Nat) (m:PM α) (a:α) (ks:List KT) (K:List KT→Prop):Prop:=
 ∀r p k,r.length≤N→r.length≤17000→strip r=ks++k→K k→m.run ⟨r,false,p⟩=(a,⟨r.drop ks.length,false,p⟩)
def Ac (N:Nat) (m:PM Ex) (c:Nat→Ex→PM Ex) (e:Ex) (ks:List KT) (K:List KT→Prop):Prop:=
 ∃j,j≤ks.length∧∀r p k,r.length≤N→r.length≤17000→strip r=ks++k→K k→m.run ⟨r,false,p⟩=(c (BI - j) e).run ⟨r.drop ks.length,false,p⟩
variable {α β:Type} {N:Nat} {K:List KT→Prop}
theorem PU (r:List Tok):(strip r).length=r.length:=by simp [strip]
theorem KV {r:List Tok} {ks k:List KT} (h:strip r=ks++k):strip (r.drop ks.length)=k:=by
 have:=congrArg (Gl ks.length) h
 rw [List.drop_left] at this
 rw [← this,strip,strip,List.map_drop]
theorem G5 {r:List Tok} {k:List KT} (h:strip r=k):(r.headD US).text=hdT k∧(r.headD US).kind=hdK k:=by
 subst h
 cases r with
 |nil=>exact ⟨rfl,rfl⟩
 |cons t l=>exact ⟨rfl,rfl⟩
theorem Rd.mono {m:PM α} {a:α} {ks:List KT} {M:Nat} (h:Rd N m a ks K) (hM:M≤N):Rd M m a ks K:=fun r p k h1=>h r p k (BD h1 hM)
theorem Rd.imp {m:PM α} {a:α} {ks:List KT} {K':List KT→Prop} (h:Rd N m a ks K) (hK:∀k,K' k→K k):Rd N m a ks K':=fun r p k h1 h2 h3 h4=>h r p k h1 h2 h3 (hK k h4)
theorem Rd.pure (a:α):Rd N (.pure a) a [] K:=fun _ _ _ _ _ _ _=>rfl
theorem Rd.bind {m:PM α} {f:α→PM β} {a:α} {b:β} {k1 k2:List KT} {K1:List KT→Prop} (h1:Rd N m a k1 K1) (h2:Rd (N - k1.length) (f a) b k2 K) (hK:∀k,K k→K1 (k2++k)):Rd N (m.bind f) b (k1++k2) K:=fun r p k hN hL hs hk=>by
 rw [AT] at hs
 have e1:=h1 r p (k2++k) hN hL hs (hK k hk)
 have e2:=h2 (r.drop k1.length) p k (by rw [Ai];omega) (by rw [Ai];omega) (KV hs) hk
 show (f (m.run ⟨r,false,p⟩).1).run (m.run ⟨r,false,p⟩).2=_
 rw [e1]
 show (f a).run ⟨r.drop k1.length,false,p⟩=_
 rw [e2,CD,AA]
theorem Rd.C0 {m:PM α} {f:α→PM β} {a:α} {b:β} {q:KT} {k2:List KT} {K1:List KT→Prop} (h1:Rd N m a [q] K1) (h2:Rd (N - 1) (f a) b k2 K) (hK:∀k,K k→K1 (k2++k)):Rd N (m.bind f) b (q::k2) K:=Rd.bind h1 h2 hK
theorem Rd.map {m:PM α} {a:α} {ks:List KT} (g:α→β) (h:Rd N m a ks K):Rd N (m.map g) (g a) ks K:=by
 have:=Rd.bind (f:=fun a=>PM.pure (g a)) h (Rd.pure (K:=K) (g a)) (fun k h=>h)
 rwa [AZ] at this
theorem Rd.CO {t:Str} {ht:t≠[]} {y n:PM α} {a:α} {ks:List KT} (q:Int) (h:Rd (N - 1) y a ks K):Rd N (.acc t ht y n) a ((q,t)::ks) K:=fun r p k hN hL hs hk=>by
 have hh:=(G5 hs).1
 rw [sF (by rw [hh];simp [hdT])]
 have e:=h r.tail p k (by rw [List.length_tail];omega) (by rw [List.length_tail];omega) (by have:=KV (ks:=[(q,t)]) hs;simpa using this) hk
 rw [e,AE,← List.drop_one,CD,Nat.add_comm]
theorem Rd.BZ {t:Str} {ht:t≠[]} {y n:PM α} {a:α} {ks:List KT} (hn:∀k,K k→hdT (ks++k)≠t) (h:Rd N n a ks K):Rd N (.acc t ht y n) a ks K:=fun r p k hN hL hs hk=>by
 have hh:=(G5 hs).1
 rw [SL (by rw [hh];simpa using hn k hk)]
 exact h r p k hN hL hs hk
theorem Rd.YJ {k0:Int} {y n:PM α} {a:α} {t:Str} {ks:List KT} (h:Rd N y a ((k0,t)::ks) K):Rd N (.kind k0 y n) a ((k0,t)::ks) K:=fun r p k hN hL hs hk=>by
 have hh:=(G5 hs).2
 have e:(PM.kind k0 y n).run ⟨r,false,p⟩=y.run ⟨r,false,p⟩:=if_pos (by rw [PSt.hd,hh];simp [hdK])
 rw [e];exact h r p k hN hL hs hk
theorem Rd.C2 {k0:Int} {y n:PM α} {a:α} {ks:List KT} (hn:∀k,K k→hdK (ks++k)≠k0) (h:Rd N n a ks K):Rd N (.kind k0 y n) a ks K:=fun r p k hN hL hs hk=>by
 have hh:=(G5 hs).2
 have e:(PM.kind k0 y n).run ⟨r,false,p⟩=n.run ⟨r,false,p⟩:=if_neg (by rw [PSt.hd,hh];simpa using hn k hk)
 rw [e];exact h r p k hN hL hs hk
theorem drop1 (r:List Tok):r.drop 1=r.tail:=List.drop_one
theorem Rd.exp {t:Str} {ht:t≠[]} (q:Int):Rd N (PM.exp t ht) () [(q,t)] K:=fun r p k _ _ hs _=>by
 have hh:=(G5 hs).1
 have e:(PM.exp t ht).run ⟨r,false,p⟩=((),⟨r.tail,false,p⟩):=if_pos (by simp only [PSt.hd,hh];simp [hdT])
 rw [e,← drop1];rfl
theorem Rd.take {q:Int} {hq:q≠6} (s:Str):Rd N (PM.take q hq) s [(q,s)] K:=fun r p k _ _ hs _=>by
 obtain ⟨h1,h2⟩:=G5 hs
 have e:(PM.take q hq).run ⟨r,false,p⟩=((r.headD US).text,⟨r.tail,false,p⟩):=if_pos (by simp only [PSt.hd,h2];simp [hdK])
 rw [e,h1,← drop1];rfl
def aZ (sep:Str) (g:α→List KT) (xs:List α):List KT:=(xs.map fun x=>(5,sep)::g x).flatten
theorem YH (sep:Str) (g:α→List KT):∀(x:α) (xs:List α),[((5:Int),sep)].intercalate ((x::xs).map g)=g x++aZ sep g xs
 |x,[]=>by simp [aZ]
 |x,y::xs=>by
  have ih:=YH sep g y xs
  simp only [AF] at ih ⊢
  rw [b9,ih]
  simp [aZ]
theorem bA (sep:Str) (g:α→List KT):∀xs:List α,xs.length≤(aZ sep g xs).length
 |[]=>A7 _
 |x::xs=>by
  have:=bA sep g xs
  simp only [aZ,AF,Ce,AA,AE] at this ⊢;omega
theorem Zo {read:PM α} {sep:Str} {hsep:sep≠[]} {g:α→List KT} {Kr:List KT→Prop} (h5:∀k,Kr ((5,sep)::k)):∀(xs:List α) (n:Nat) (acc:List α) (N:Nat),xs.length≤n→(∀x∈xs,∀M,M≤N→Rd M read x (g x) Kr)→Rd N (EV read sep hsep n acc) (acc++xs) (aZ sep g xs) (fun k=>Kr k∧hdT k≠sep)
 |[],n,acc,N,_,_=>by
  rw [AZ]
  cases n with
  |zero=>exact Rd.pure _
  |succ n=>exact Rd.BZ (fun k hk=>hk.2) (Rd.pure _)
 |x::xs,0,acc,N,h,_=>by simp at h
 |x::xs,n+1,acc,N,h,hr=>by
  have ih:=Zo (hsep:=hsep) h5 xs n (acc++[x]) (N - 1 - (g x).length) (by simp at h;omega) (fun y hy M hM=>hr y (Ah _ hy) M (by omega))
  rw [AT] at ih
  refine Rd.CO 5 (Rd.bind (hr x (Ae ..) (N - 1) (by omega)) ih (fun k hk=>?_))
  cases xs with
  |nil=>exact hk.1
  |cons y ys=>exact h5 _
theorem XW {read:PM α} {sep:Str} {hsep:sep≠[]} {g:α→List KT} {Kr:List KT→Prop} (h5:∀k,Kr ((5,sep)::k)) {xs:List α} (hne:xs≠[]) (hr:∀x∈xs,∀M,M≤N→Rd M read x (g x) Kr):Rd N (items read sep hsep) xs ([((5:Int),sep)].intercalate (xs.map g)) (fun k=>Kr k∧hdT k≠sep):=by
 cases xs with
 |nil=>exact absurd rfl hne
 |cons x xs=>
  rw [YH]
  intro r p k hN hL hs hk
  have hlen:xs.length≤BI:=by
   have h1:=bA sep g xs
   have h2:=congrArg RW hs
   rw [PU,AA,AA] at h2
   have:=F6
   omega
  refine Rd.bind (K1:=Kr) (hr x (Ae ..) N (A7 _)) (Zo h5 xs BI [x] (N - (g x).length) hlen (fun y hy M hM=>hr y (Ah _ hy) M (by omega))) (fun k hk=>?_) r p k hN hL hs hk
  cases xs with
  |nil=>exact hk.1
  |cons y ys=>exact h5 _
theorem O1 {read:PM α} {g:α→List KT} {Kr:List KT→Prop} (h5:∀k,Kr ((5,[44])::k)) (h6:∀k,Kr ((5,[41])::k)) {xs:List α} (hne:xs≠[]) (hr:∀x∈xs,∀M,M≤N→Rd M read x (g x) Kr):Rd N (listed read) xs (cmK (xs.map g)++[(5,[41])]) K:=
 Rd.bind (XW h5 hne hr) (Rd.C0 (Rd.exp 5) (Rd.pure xs) (fun _ h=>h)) (fun k _=>⟨h6 k,by simp [hdT]⟩)
theorem yE {read:PM α} {g:α→List KT} {Kr:List KT→Prop} (h5:∀k,Kr ((5,[44])::k)) (h6:∀k,Kr ((5,[41])::k)) {xs:List α} (hne:xs≠[]) (hr:∀x∈xs,∀M,M+1≤N→Rd M read x (g x) Kr) (n:PM (List α)) (ht:[40]≠[]):Rd N (.acc [40] ht (listed read) n) xs (Hu (cmK (xs.map g))) K:=by
 by_cases hN:N=0
 · subst hN
   intro r p k h1 _ hs _
   have:=congrArg RW hs
   rw [PU] at this
   simp [Hu] at this
   omega
 · exact Rd.CO 5 (O1 h5 h6 hne (fun x hx M hM=>hr x hx M (by omega)))
theorem XX {read:PM α} {g:α→List KT} {Kr:List KT→Prop} (h5:∀k,Kr ((5,[44])::k)) (h6:∀k,Kr ((5,[41])::k)) (xs:List α) (hr:∀x∈xs,∀M,M+1≤N→Rd M read x (g x) Kr):Rd N (IT read) xs (VC (xs.map g)) (fun k=>xs=[]→hdT k≠[40]):=by
 cases xs with
 |nil=>exact Rd.BZ (fun k hk=>hk rfl) (Rd.pure _)
 |cons x xs=>exact yE h5 h6 (by simp) hr _ _
theorem bI {read:PM α} {g:α→List KT} {Kr:List KT→Prop} (h5:∀k,Kr ((5,[44])::k)) (h6:∀k,Kr ((5,[41])::k)) (xs:List α) (hr:∀x∈xs,∀M,M≤N→Rd M read x (g x) Kr) (hh:∀x∈xs,∀k,hdT (g x++k)≠[41]):Rd N (closed read) xs (cmK (xs.map g)++[(5,[41])]) K:=by
 cases xs with
 |nil=>exact Rd.CO 5 (Rd.pure _)
 |cons x xs=>
  refine Rd.BZ (fun k _=>?_) (O1 h5 h6 (by simp) hr)
  rw [cmK,YH,AT,AT]
  exact hh x (Ae ..) _
theorem mG {s:Str} {k:Int} (hk:k=1∨k=2) (h:GJ k s=true):Nw s=false:=by
 have:∀t,D3 s= .ok (k,t)→t=s→Nw s=false:=fun t ht e=>by
  subst e
  obtain ⟨h1,_,_⟩:=Yj 0 ht
  rcases h1 with ⟨_,h⟩|h|h|h
  · exact h
  · simp only at h;omega
  · simp only at h;omega
  · have:=h.1;simp only at this;omega
 rcases hk with rfl|rfl
 · obtain ⟨b,r,rfl,h1,h2,h3,h4⟩:=YP h
   refine this (b::r) ?_ rfl
   have ht:=dF (p:=CL GK) (s:=b::r) (rest:=[]) h2 (fun _ _ e=>by cases e)
   rw [AZ] at ht
   rw [D3,ht,h1,(Vg h1).2.2,h4,decide_eq_false (by omega)];rfl
 · obtain ⟨b,r,rfl,h1,h2,h3⟩:=Vz h
   refine this (b::r) ?_ rfl
   have ht:=dF (p:=CL GK) (s:=b::r) (rest:=[]) h2 (fun _ _ e=>by cases e)
   rw [AZ] at ht
   rw [D3,ht,h1,decide_eq_false (by omega),OW];rfl
theorem Nx {s t:Str} (h:Nw s=false) (ht:Nw t=true):s≠t:=fun e=>by rw [e,ht] at h;cases h
theorem Vh {s:Str} (h:DY s=true):Nw s=false:=mG (.inl rfl) h
theorem mE {s:Str} (h:upperB s=true):Nw s=false:=mG (.inr rfl) h
theorem RX {s:Str} (h:GM s=true):Rd N GW s (shK s) K:=by
 unfold shK
 split
 · rename_i e;subst e;exact Rd.CO 5 (Rd.pure _)
 · rename_i e
   simp only [GM,BT,beq_iff_eq] at h
   have hn:DY s=true:=h.resolve_left e
   exact Rd.BZ (fun k _=>Nx (Vh hn) (by decide)) (Rd.take s)
end Go.Ab
