/- The tokens of formatted programs, in plain data. Reading the tokens of a formatted text back, in plain data: the rules. Conditions: none. -/
import Derived.Test.YtifplkldbbcldaaGreatDoorXQf
set_option linter.unusedSimpArgs false
set_option linter.unusedVariables false
set_option maxRecDepth 4000
set_option maxHeartbeats 8000000
open Bool renaming and_eq_true→AL,or_true→ON,or_eq_true→BM
open List renaming all_eq_true→A5,append_nil→A1,map_append→BU,map_cons→AF,map_nil→AI,mem_cons_of_mem→Ai,mem_cons_self→Aa,mem_cons→Bv,append_assoc→AS,length_drop→Ag,drop_drop→CH,length_append→AA,length_cons→AD,flatten_cons→Ck,length→N8
open Option renaming isSome_iff_exists→WY
open Nat renaming le_trans→Ay,le_refl→A7
namespace Go.Ab
def NK (k:Int) (n:Str) (ts:List (List KT)):List KT:=
 if k=1 then [(4,[105,110,116])] else if k=2 then [(4,[98,111,111,108])] else if k=3 then [(4,[117,110,105,116])]
                                                                                             else if k=7 then (4,[97,114,114,97,121])::Ut ts else if k=8 then (4,[114,101,102])::Ut ts
                                                                                             else if k=9 then (4,[102,110])::(L7 ts.dropLast++((5,[45,62])::ts.getLastD []))
                                                                                             else if k=4 then [(1,n)] else if k=5 then (2,n)::Ut ts else Ut ts
mutual
def Hy:TE→List KT
 | .mk k n l=>NK k n (lC l)
def lC:List TE→List (List KT)
 |[]=>[]
 |t::l=>Hy t::lC l
end
theorem Se:∀l:List TE,lC l=l.map Hy
 |[]=>rfl
 |t::l=>by rw [lC,Se l];rfl
theorem cB {k:Int} {n:Str} {q:Nat} (h:Ct k n q=true):k=1∨k=2∨k=3∨k=4∨k=5∨k=6∨k=7∨k=8∨k=9:=by
 unfold Ct at h
 split at h
 · omega
 · split at h
   · omega
   · split at h
     · omega
     · split at h
       · omega
       · split at h
         · omega
         · split at h
           · omega
           · cases h
theorem UA {α:Type}:∀ {l:List α},1≤l.length→∃m x,l=m++[x]
 |[],h=>by simp at h
 |[x],_=>⟨[],x,rfl⟩
 |x::y::l,_=>by
  obtain ⟨m,z,e⟩:=UA (l:=y::l) (by simp)
  exact ⟨x::m,z,by rw [e];rfl⟩
theorem q7:∀(d:Nat) (t:TE),Bo d t=true→E1 (Cv t) (Hy t)
 |0,.mk ..,h=>by cases h
 |d+1,.mk k n l,h=>by
  rw [Bo,AL,A5] at h
  obtain ⟨h1,h2⟩:=h
  have hl:=fun x hx=>q7 d x (h2 x hx)
  rw [Cv,Hy,P5,Se]
  have ho:=S9 Cv Hy l hl
  have hk:=cB h1
  rcases hk with rfl|rfl|rfl|rfl|rfl|rfl|rfl|rfl|rfl
  · exact Tz (s:=[105,110,116]) (by decide)
  · exact Tz (s:=[98,111,111,108]) (by decide)
  · exact Tz (s:=[117,110,105,116]) (by decide)
  · simp [Ct] at h1
    obtain ⟨h1,h3⟩:=h1
    subst h3
    show E1 (n++[]) [(1,n)]
    rw [A1]
    exact Mt h1
  · simp [Ct] at h1
    exact (Oe h1.1).ss (by have:=NH (l.map Cv) (r:=[]) rfl;rwa [A1] at this) ho.s
  · simp [Ct] at h1
    rw [h1.1.1]
    exact ho.s
  · exact (Tz (s:=[97,114,114,97,121]) (by decide)).ss (by have:=NH (l.map Cv) (r:=[]) rfl;rwa [A1] at this) ho.s
  · exact (Tz (s:=[114,101,102]) (by decide)).ss (by have:=NH (l.map Cv) (r:=[]) rfl;rwa [A1] at this) ho.s
  · simp [Ct] at h1
    obtain ⟨m,x,rfl⟩:=UA h1.1.2
    have hm:=Ul Cv Hy m (fun y hy=>hl y (List.mem_append_left _ hy))
    have hx:=hl x (by simp)
    show E1 ([102,110]++(Ij ((m++[x]).map Cv).dropLast++([32,45,62,32]++((m++[x]).map Cv).getLastD []))) ((4,[102,110])::(L7 ((m++[x]).map Hy).dropLast++((5,[45,62])::((m++[x]).map Hy).getLastD [])))
    simp only [BU,AF,AI,List.dropLast_concat,List.getLastD_concat]
    exact (Tz (s:=[102,110]) (by decide)).ss rfl (hm.ss (S8.ss hx))
def atK (l:List (List KT)) (i:Nat):List KT:=l.getD i []
def plK (d:Nat) (k:Ex) (t:List KT):List KT:=if lvl k < d then Hu t else t
def ABR (ks:List Ex) (ts:List (List KT)):List KT:=match ks with
 |[]=>L7 ts.tail
 |k::_=>(if M3 k then Hu (atK ts 0) else plK 4 k (atK ts 0))++L7 ts.tail
def ABS (u:Int) (ks:List Ex) (ts:List (List KT)):List KT:=match ks with
 |[a,b]=>plK (if Ee u=1 then 2 else Ee u) a (atK ts 0)++((5,opT u)::plK (if Ee u=1 then 2 else Ee u+1) b (atK ts 1))
 |_=>[]
def tkN (o:Int) (n:Str) (u:Int) (ns:List Str) (ks:List Ex) (ts:List (List KT)) (aks:List (List KT)):List KT:=
 if o=7 then (4,[108,101,116])::(shK n++((5,[61])::(atK ts 0++((4,[105,110])::atK ts 1))))
                                                                 else if o=8 then (4,[108,101,116])::(Ut (ns.map shK)++((5,[61])::(atK ts 0++((4,[105,110])::atK ts 1))))
                                                                 else if o=9 then (4,[105,102])::(atK ts 0++((4,[116,104,101,110])::(atK ts 1++((4,[101,108,115,101])::atK ts 2))))
                                                                 else if o=10 then (4,[109,97,116,99,104])::(atK ts 0++((4,[119,105,116,104])::([(5,[124])].intercalate aks++[(4,[101,110,100])])))
                                                                 else if o=11 then (4,[102,110])::(L7 (ns.map fun s=>[(1,s)])++((5,[45,62])::atK ts 0))
                                                                 else if o=17 then (4,[116,114,121])::(atK ts 0++((4,[99,97,116,99,104])::(shK n++((5,[45,62])::(atK ts 1++[(4,[101,110,100])])))))
                                                                 else if o=13 then ABS u ks ts
                                                                 else if o=12 then ABR ks ts
                                                                 else if o=1 then [(5,[40]),(5,[41])]
                                                                 else if o=2 then (if u=1 then [(4,[116,114,117,101])] else [(4,[102,97,108,115,101])])
                                                                 else if o=3 then Td u
                                                                 else if o=5 then L7 ts
                                                                 else if o=14 then (4,prT u)::L7 ts
                                                                 else if o=16 then (4,[114,97,105,115,101])::L7 ts
                                                                 else if o=15 then (4,[116,105,99,107])::Hu (Td u)
                                                                 else if o=4 then [(1,n)]
                                                                 else (2,n)::Ut ts
def zR (c:Str) (vs:List Str) (b:List KT):List KT:=(2,c)::(Ut (vs.map shK)++((5,[45,62])::b))
mutual
def tkE:Ex→List KT
 | .mk o n u ns ks al=>tkN o n u ns ks (wK ks) (wJ al)
def wK:List Ex→List (List KT)
 |[]=>[]
 |t::l=>tkE t::wK l
def tkA:Al→List KT
 | .mk c vs b=>zR c vs (tkE b)
def wJ:List Al→List (List KT)
 |[]=>[]
 |t::l=>tkA t::wJ l
end
theorem NJ:∀l:List Ex,wK l=l.map tkE
 |[]=>rfl
 |t::l=>by rw [wK,NJ l];rfl
theorem NI:∀l:List Al,wJ l=l.map tkA
 |[]=>rfl
 |t::l=>by rw [wJ,NI l];rfl
theorem kU {o u:Int} {q:Nat} (h:nkB o u q=true):o=1∨o=2∨o=3∨o=4∨o=5∨o=6∨o=7∨o=8∨o=9∨o=10∨o=11∨o=12∨o=13∨o=14∨o=15∨o=16∨o=17:=by
 unfold nkB at h
 repeat' (split at h)
 all_goals first|omega|cases h
theorem iF {d:Nat} {k:Ex} {t:Str} {q:List KT} (h:E1 t q):E1 (pl d k t) (plK d k q):=by
 unfold pl plK
 split
 · exact (Um h).s
 · exact h
theorem Z7 {l:List Str} (h:l.all GK=true):∀s∈l,E1 (shown s) (shK s):=fun s hs=>V7 (A5.1 h s hs)
theorem y7 {u:Int} (h1:1≤u) (h2:u≤8):E1 (opT u) [(5,opT u)]:=by
 have h:u=1∨u=2∨u=3∨u=4∨u=5∨u=6∨u=7∨u=8:=by omega
 rcases h with rfl|rfl|rfl|rfl|rfl|rfl|rfl|rfl
 · exact (G7 [43] (by decide) (by decide)).s
 · exact fun r hr=>UG 45 (.inl rfl) (PJ hr)
 · exact (G7 [42] (by decide) (by decide)).s
 · exact (G7 [47] (by decide) (by decide)).s
 · exact (G7 [37] (by decide) (by decide)).s
 · exact fun r hr=>UG 60 (.inr (.inl rfl)) (PJ hr)
 · exact (G7 [60,61] (by decide) (by decide)).s
 · exact (G7 [61,61] (by decide) (by decide)).s
theorem qY {u:Int}:E1 (prT u) [(4,prT u)]:=by
 unfold prT
 repeat' split
 all_goals exact Tz (by decide)
theorem W9 {α:Type} {l:List α} (h:l.length=1):∃a,l=[a]:=by
 match l,h with
 |[a],_=>exact ⟨a,rfl⟩
theorem Sx {α:Type} {l:List α} (h:l.length=2):∃a b,l=[a,b]:=by
 match l,h with
 |[a,b],_=>exact ⟨a,b,rfl⟩
theorem iD {α:Type} {l:List α} (h:l.length=3):∃a b c,l=[a,b,c]:=by
 match l,h with
 |[a,b,c],_=>exact ⟨a,b,c,rfl⟩
theorem qX (o:Int) (n:Str) (u:Int) (ns:List Str) (ks:List Ex) (al:List Al) (hn:GS o n u ns ks.length al=true) (hk:∀x∈ks,E1 (BA x) (tkE x)) (ha:∀x∈al,E1 (Mh x) (tkA x)):E1 (BA (.mk o n u ns ks al)) (tkE (.mk o n u ns ks al)):=by
 simp only [GS,AL] at hn
 obtain ⟨⟨⟨⟨hnm,hnu⟩,hns⟩,has⟩,hnk⟩:=hn
 rw [BA,tkE,MW,NJ,VV,NI]
 have hl:=Ul BA tkE ks hk
 have ho:=S9 BA tkE ks hk
 rcases kU hnk with rfl|rfl|rfl|rfl|rfl|rfl|rfl|rfl|rfl|rfl|rfl|rfl|rfl|rfl|rfl|rfl|rfl
 · exact (qV.a q6).s
 · show E1 (if u=1 then [116,114,117,101] else [102,97,108,115,101]) (if u=1 then [(4,[116,114,117,101])] else [(4,[102,97,108,115,101])])
   split
   · exact Tz (by decide)
   · exact Tz (by decide)
 · simp [nuB] at hnu
   exact dX hnu.1 hnu.2
 · have:ks=[]:=by simpa [nkB] using hnk
   subst this
   show E1 (n++[]) [(1,n)]
   rw [A1]
   exact Mt (by simpa [nmB] using hnm)
 · exact hl.s
 · exact (Oe (by simpa [nmB] using hnm)).ss (by have:=NH (ks.map BA) (r:=[]) rfl;rwa [A1] at this) ho.s
 · obtain ⟨a,b,rfl⟩:=Sx (by simpa [nkB] using hnk)
   exact (Po (s:=[108,101,116]) (by decide)).ss ((V7 (by simpa [nmB] using hnm)).ss rfl (bM.ss ((hk a (by simp)).ss rfl ((V6 (s:=[105,110]) (by decide)).ss (hk b (by simp))))))
 · obtain ⟨a,b,rfl⟩:=Sx (by simpa [nkB] using hnk)
   simp only [nsB,if_true,AL] at hns
   exact (Po (s:=[108,101,116]) (by decide)).ss ((S9 shown shK ns (Z7 hns.2)).ss (bM.ss ((hk a (by simp)).ss rfl ((V6 (s:=[105,110]) (by decide)).ss (hk b (by simp))))))
 · obtain ⟨a,b,c,rfl⟩:=iD (by simpa [nkB] using hnk)
   exact (Po (s:=[105,102]) (by decide)).ss ((hk a (by simp)).ss rfl ((V6 (s:=[116,104,101,110]) (by decide)).ss ((hk b (by simp)).ss rfl ((V6 (s:=[101,108,115,101]) (by decide)).ss (hk c (by simp))))))
 · obtain ⟨a,rfl⟩:=W9 (by simpa [nkB] using hnk)
   have hj:=Uk (sep:=[32,124,32]) (ks:=[(5,[124])]) (IP.a ((G7 [124] (by decide) (by decide)).a IP)) rfl (by decide) Mh tkA al ha
   exact (Po (s:=[109,97,116,99,104]) (by decide)).ss ((hk a (by simp)).ss rfl ((V6 (s:=[119,105,116,104]) (by decide)).ss (hj.ss rfl (kO (s:=[101,110,100]) (by decide)))))
 · obtain ⟨a,rfl⟩:=W9 (by simpa [nkB] using hnk)
   simp [nsB] at hns
   have hp:=Ul id (fun s=>[(1,s)]) ns (fun s hs=>Mt (hns.2 s hs))
   rw [List.map_id] at hp
   exact (Tz (s:=[102,110]) (by decide)).ss rfl (hp.ss (S8.ss (hk a (by simp))))
 · cases ks with
   |nil=>simp [nkB] at hnk
   |cons f l=>
    have hl2:=Ul BA tkE l (fun x hx=>hk x (Ai _ hx))
    have hf:=hk f (Aa ..)
    show E1 ((if M3 f then JT (BA f) else pl 4 f (BA f))++Ij (l.map BA)) ((if M3 f then Hu (tkE f) else plK 4 f (tkE f))++L7 (l.map tkE))
    refine E1.ss ?_ rfl hl2.s
    split
    · exact (Um hf).s
    · exact iF hf
 · obtain ⟨a,b,rfl⟩:=Sx (by simpa [nkB] using hnk)
   simp [nuB] at hnu
   exact (iF (hk a (by simp))).ss rfl (IP.ss ((y7 hnu.1 hnu.2).ss rfl (IP.ss (iF (hk b (by simp))))))
 · exact (qY (u:=u)).ss rfl hl.s
 · simp [nuB] at hnu
   exact (Tz (s:=[116,105,99,107]) (by decide)).ss rfl (Um (dX (by omega) (by omega))).s
 · exact (Tz (s:=[114,97,105,115,101]) (by decide)).ss rfl hl.s
 · obtain ⟨a,b,rfl⟩:=Sx (by simpa [nkB] using hnk)
   exact (Po (s:=[116,114,121]) (by decide)).ss ((hk a (by simp)).ss rfl ((V6 (s:=[99,97,116,99,104]) (by decide)).ss ((V7 (by simpa [nmB] using hnm)).ss rfl (S8.ss ((hk b (by simp)).ss rfl (kO (s:=[101,110,100]) (by decide)))))))
theorem gA {o:Int} {al:List Al} (h:asB o al=true):∀a∈al,M2 a=true:=fun a ha=>by
 unfold asB at h
 split at h
 · simp only [AL,A5] at h;exact h.2 a ha
 · have:al=[]:=by simpa using h
   rw [this] at ha;cases ha
mutual
theorem iE:∀(e:Ex),e.nb→E1 (BA e) (tkE e)
 | .mk o n u ns ks al,h=>by
  rw [Ex.nb] at h
  have h4:=h.1
  simp only [GS,AL] at h4
  exact qX o n u ns ks al h.1 (kP ks h.2.1) (kM al h.2.2 (gA h4.1.2))
theorem kP:∀(l:List Ex),Ex.nbs l→∀x∈l,E1 (BA x) (tkE x)
 |[],_,x,hx=>by cases hx
 |k::l,h,x,hx=>by
  rw [Ex.nbs] at h
  have h1:=iE k h.1
  have h2:=kP l h.2
  rcases Bv.1 hx with rfl|hx
  · exact h1
  · exact h2 x hx
theorem y6:∀(a:Al),a.nb→M2 a=true→E1 (Mh a) (tkA a)
 | .mk c vs b,h,ha=>by
  rw [Al.nb] at h
  simp only [M2,AL] at ha
  rw [Mh,tkA]
  exact (Oe ha.1.1).ss (NH _ rfl) ((S9 shown shK vs (Z7 ha.2)).ss (S8.ss (iE b h)))
theorem kM:∀(l:List Al),Al.nbs l→(∀a∈l,M2 a=true)→∀x∈l,E1 (Mh x) (tkA x)
 |[],_,_,x,hx=>by cases hx
 |k::l,h,ha,x,hx=>by
  rw [Al.nbs] at h
  have h1:=y6 k h.1 (ha _ (Aa ..))
  have h2:=kM l h.2 (fun a h=>ha a (Ai _ h))
  rcases Bv.1 hx with rfl|hx
  · exact h1
  · exact h2 x hx
end
def tkC (c:CE):List KT:=(2,c.name)::Ut (c.args.map Hy)
def tkD (d:DE):List KT:=(4,[100,97,116,97])::(2,d.name)::(Ut (d.vars.map fun s=>[(1,s)])++((5,[61])::([(5,[124])].intercalate (d.cons.map tkC)++[(5,[59])])))
def tkF (f:FE):List KT:=(4,[102,117,110])::(1,f.name)::(L7 (f.params.map fun s=>[(1,s)])++((5,[61])::(tkE f.body++[(5,[59])])))
def tkP (p:Pg):List KT:=(p.data.map tkD).flatten++(p.P6.map tkF).flatten
theorem dY:G4 [59,10] [(5,[59])]:=(G7 [59] (by decide) (by decide)).a qW
theorem uT {c:CE} (h:Q9 c=true):E1 (fmtC c) (tkC c):=by
 simp only [Q9,AL,A5] at h
 exact (Oe h.1.1).ss (by have:=NH (c.args.map Cv) (r:=[]) rfl;rwa [A1] at this) (S9 Cv Hy c.args (fun t ht=>q7 40 t (h.2 t ht))).s
theorem qU {d:DE} (h:GP d=true):G4 (Tr d) (tkD d):=by
 simp only [GP,AL,A5] at h
 obtain ⟨⟨⟨⟨⟨h1,h2⟩,h3⟩,h4⟩,h5⟩,h6⟩:=h
 have hp:=S9 id (fun s=>[(1,s)]) d.vars (fun s hs=>Mt (h3 s hs))
 rw [List.map_id] at hp
 have hj:=Uk (sep:=[32,124,32]) (ks:=[(5,[124])]) (IP.a ((G7 [124] (by decide) (by decide)).a IP)) rfl (by decide) fmtC tkC d.cons (fun c hc=>uT (h6 c hc))
 exact (Po (s:=[100,97,116,97]) (by decide)).a ((Oe h1).a (NH _ rfl) (by simp) (hp.a (bM.a (hj.a rfl (by decide) dY))))
theorem uU {f:FE} (h:Mm f=true) (hb:f.body.nb):G4 (VW f) (tkF f):=by
 simp only [Mm,AL,A5] at h
 have hp:=Ul id (fun s=>[(1,s)]) f.params (fun s hs=>Mt (h.2 s hs))
 rw [List.map_id] at hp
 exact (Po (s:=[102,117,110]) (by decide)).a ((Mt h.1.1).a rfl (by simp [Ij,JT]) (hp.a (bM.a ((iE _ hb).a rfl (by decide) dY))))
theorem Xx {α:Type} (f:α→Str) (g:α→List KT):∀l:List α,(∀x∈l,G4 (f x) (g x))→G4 (l.map f).flatten (l.map g).flatten
 |[],_=>G4.nil
 |x::l,h=>(h x (Aa ..)).a (Xx f g l (fun y hy=>h y (Ai _ hy)))
theorem fJ {p:Pg} (h:CW p=true):(∀d∈p.data,GP d=true)∧∀f∈p.P6,Mm f=true∧f.body.nb:=by
 simp only [CW,AL,A5] at h
 obtain ⟨r,hr⟩:=WY.1 h.2
 refine ⟨h.1.2,OY p.P6 600 r (fun f _ a b hab=>?_) hr⟩
 unfold PL at hab
 split at hab
 · rename_i hh;exact ⟨hh,cI 40 a f.body b hab⟩
 · cases hab
theorem qZ {p:Pg} (h:CW p=true):G4 (ZL p) (tkP p):=by
 obtain ⟨h1,h2⟩:=fJ h
 exact (Xx Tr tkD p.data (fun d hd=>qU (h1 d hd))).a (Xx VW tkF p.P6 (fun f hf=>uU (h2 f hf).1 (h2 f hf).2))
theorem oD {s:Str} {ks:List KT} (h:G4 s ks) (hl:s.length≤16384):(Am s).2.2=0∧strip (Am s).1=ks++[(6,[])]:=by
 unfold Am
 rw [if_neg (by omega)]
 obtain ⟨n,i,acc,e1,e2,e3⟩:=h [] (s.length+1) 0 [] (by simp)
 rw [A1] at e3
 rw [e3]
 cases n with
 |zero=>simp at e2
 |succ n=>
  rw [C4]
  refine ⟨rfl,?_⟩
  show strip (acc++[⟨6,[],i⟩])=_
  rw [strip,BU]
  rw [strip] at e1
  rw [e1];rfl
end Go.Ab
namespace Go.Ab
def hdT (k:List KT):Str:=(k.headD (6,[])).2
def hdK (k:List KT):Int:=(k.headD (6,[])).1
def noT (l:List Str) (k:List KT):Prop:=l.contains (hdT k)=false
def Rd {α:Type} (N:Nat) (m:PM α) (a:α) (ks:List KT) (K:List KT→Prop):Prop:=
 ∀r p k,r.length≤N→r.length≤17000→strip r=ks++k→K k→m.run ⟨r,false,p⟩=(a,⟨r.drop ks.length,false,p⟩)
def Ac (N:Nat) (m:PM Ex) (c:Nat→Ex→PM Ex) (e:Ex) (ks:List KT) (K:List KT→Prop):Prop:=
 ∃j,j≤ks.length∧∀r p k,r.length≤N→r.length≤17000→strip r=ks++k→K k→m.run ⟨r,false,p⟩=(c (BC - j) e).run ⟨r.drop ks.length,false,p⟩
variable {α β:Type} {N:Nat} {K:List KT→Prop}
theorem KS (r:List Tok):(strip r).length=r.length:=by simp [strip]
theorem KR {r:List Tok} {ks k:List KT} (h:strip r=ks++k):strip (r.drop ks.length)=k:=by
 have:=congrArg (List.drop ks.length) h
 rw [List.drop_left] at this
 rw [← this,strip,strip,List.map_drop]
theorem G2 {r:List Tok} {k:List KT} (h:strip r=k):(r.headD UK).text=hdT k∧(r.headD UK).kind=hdK k:=by
 subst h
 cases r with
 |nil=>exact ⟨rfl,rfl⟩
 |cons t l=>exact ⟨rfl,rfl⟩
theorem Rd.mono {m:PM α} {a:α} {ks:List KT} {M:Nat} (h:Rd N m a ks K) (hM:M≤N):Rd M m a ks K:=fun r p k h1=>h r p k (Ay h1 hM)
theorem Rd.imp {m:PM α} {a:α} {ks:List KT} {K':List KT→Prop} (h:Rd N m a ks K) (hK:∀k,K' k→K k):Rd N m a ks K':=fun r p k h1 h2 h3 h4=>h r p k h1 h2 h3 (hK k h4)
theorem Rd.pure (a:α):Rd N (.pure a) a [] K:=fun _ _ _ _ _ _ _=>rfl
theorem Rd.bind {m:PM α} {f:α→PM β} {a:α} {b:β} {k1 k2:List KT} {K1:List KT→Prop} (h1:Rd N m a k1 K1) (h2:Rd (N - k1.length) (f a) b k2 K) (hK:∀k,K k→K1 (k2++k)):Rd N (m.bind f) b (k1++k2) K:=fun r p k hN hL hs hk=>by
 rw [AS] at hs
 have e1:=h1 r p (k2++k) hN hL hs (hK k hk)
 have e2:=h2 (r.drop k1.length) p k (by rw [Ag];omega) (by rw [Ag];omega) (KR hs) hk
 show (f (m.run ⟨r,false,p⟩).1).run (m.run ⟨r,false,p⟩).2=_
 rw [e1]
 show (f a).run ⟨r.drop k1.length,false,p⟩=_
 rw [e2,CH,AA]
theorem Rd.C3 {m:PM α} {f:α→PM β} {a:α} {b:β} {q:KT} {k2:List KT} {K1:List KT→Prop} (h1:Rd N m a [q] K1) (h2:Rd (N - 1) (f a) b k2 K) (hK:∀k,K k→K1 (k2++k)):Rd N (m.bind f) b (q::k2) K:=Rd.bind h1 h2 hK
theorem Rd.map {m:PM α} {a:α} {ks:List KT} (g:α→β) (h:Rd N m a ks K):Rd N (m.map g) (g a) ks K:=by
 have:=Rd.bind (f:=fun a=>PM.pure (g a)) h (Rd.pure (K:=K) (g a)) (fun k h=>h)
 rwa [A1] at this
theorem Rd.CQ {t:Str} {ht:t≠[]} {y n:PM α} {a:α} {ks:List KT} (q:Int) (h:Rd (N - 1) y a ks K):Rd N (.acc t ht y n) a ((q,t)::ks) K:=fun r p k hN hL hs hk=>by
 have hh:=(G2 hs).1
 rw [rN (by rw [hh];simp [hdT])]
 have e:=h r.tail p k (by rw [List.length_tail];omega) (by rw [List.length_tail];omega) (by have:=KR (ks:=[(q,t)]) hs;simpa using this) hk
 rw [e,AD,← List.drop_one,CH,Nat.add_comm]
theorem Rd.BZ {t:Str} {ht:t≠[]} {y n:PM α} {a:α} {ks:List KT} (hn:∀k,K k→hdT (ks++k)≠t) (h:Rd N n a ks K):Rd N (.acc t ht y n) a ks K:=fun r p k hN hL hs hk=>by
 have hh:=(G2 hs).1
 rw [SB (by rw [hh];simpa using hn k hk)]
 exact h r p k hN hL hs hk
theorem Rd.Xw {k0:Int} {y n:PM α} {a:α} {t:Str} {ks:List KT} (h:Rd N y a ((k0,t)::ks) K):Rd N (.kind k0 y n) a ((k0,t)::ks) K:=fun r p k hN hL hs hk=>by
 have hh:=(G2 hs).2
 have e:(PM.kind k0 y n).run ⟨r,false,p⟩=y.run ⟨r,false,p⟩:=if_pos (by rw [PSt.hd,hh];simp [hdK])
 rw [e];exact h r p k hN hL hs hk
theorem Rd.C7 {k0:Int} {y n:PM α} {a:α} {ks:List KT} (hn:∀k,K k→hdK (ks++k)≠k0) (h:Rd N n a ks K):Rd N (.kind k0 y n) a ks K:=fun r p k hN hL hs hk=>by
 have hh:=(G2 hs).2
 have e:(PM.kind k0 y n).run ⟨r,false,p⟩=n.run ⟨r,false,p⟩:=if_neg (by rw [PSt.hd,hh];simpa using hn k hk)
 rw [e];exact h r p k hN hL hs hk
theorem drop1 (r:List Tok):r.drop 1=r.tail:=List.drop_one
theorem Rd.exp {t:Str} {ht:t≠[]} (q:Int):Rd N (PM.exp t ht) () [(q,t)] K:=fun r p k _ _ hs _=>by
 have hh:=(G2 hs).1
 have e:(PM.exp t ht).run ⟨r,false,p⟩=((),⟨r.tail,false,p⟩):=if_pos (by simp only [PSt.hd,hh];simp [hdT])
 rw [e,← drop1];rfl
theorem Rd.take {q:Int} {hq:q≠6} (s:Str):Rd N (PM.take q hq) s [(q,s)] K:=fun r p k _ _ hs _=>by
 obtain ⟨h1,h2⟩:=G2 hs
 have e:(PM.take q hq).run ⟨r,false,p⟩=((r.headD UK).text,⟨r.tail,false,p⟩):=if_pos (by simp only [PSt.hd,h2];simp [hdK])
 rw [e,h1,← drop1];rfl
def aG (sep:Str) (g:α→List KT) (xs:List α):List KT:=(xs.map fun x=>(5,sep)::g x).flatten
theorem Xu (sep:Str) (g:α→List KT):∀(x:α) (xs:List α),[((5:Int),sep)].intercalate ((x::xs).map g)=g x++aG sep g xs
 |x,[]=>by simp [aG]
 |x,y::xs=>by
  have ih:=Xu sep g y xs
  simp only [AF] at ih ⊢
  rw [bF,ih]
  simp [aG]
theorem aH (sep:Str) (g:α→List KT):∀xs:List α,xs.length≤(aG sep g xs).length
 |[]=>A7 _
 |x::xs=>by
  have:=aH sep g xs
  simp only [aG,AF,Ck,AA,AD] at this ⊢;omega
theorem Z4 {read:PM α} {sep:Str} {hsep:sep≠[]} {g:α→List KT} {Kr:List KT→Prop} (h5:∀k,Kr ((5,sep)::k)):∀(xs:List α) (n:Nat) (acc:List α) (N:Nat),xs.length≤n→(∀x∈xs,∀M,M≤N→Rd M read x (g x) Kr)→Rd N (EZ read sep hsep n acc) (acc++xs) (aG sep g xs) (fun k=>Kr k∧hdT k≠sep)
 |[],n,acc,N,_,_=>by
  rw [A1]
  cases n with
  |zero=>exact Rd.pure _
  |succ n=>exact Rd.BZ (fun k hk=>hk.2) (Rd.pure _)
 |x::xs,0,acc,N,h,_=>by simp at h
 |x::xs,n+1,acc,N,h,hr=>by
  have ih:=Z4 (hsep:=hsep) h5 xs n (acc++[x]) (N - 1 - (g x).length) (by simp at h;omega) (fun y hy M hM=>hr y (Ai _ hy) M (by omega))
  rw [AS] at ih
  refine Rd.CQ 5 (Rd.bind (hr x (Aa ..) (N - 1) (by omega)) ih (fun k hk=>?_))
  cases xs with
  |nil=>exact hk.1
  |cons y ys=>exact h5 _
theorem XJ {read:PM α} {sep:Str} {hsep:sep≠[]} {g:α→List KT} {Kr:List KT→Prop} (h5:∀k,Kr ((5,sep)::k)) {xs:List α} (hne:xs≠[]) (hr:∀x∈xs,∀M,M≤N→Rd M read x (g x) Kr):Rd N (items read sep hsep) xs ([((5:Int),sep)].intercalate (xs.map g)) (fun k=>Kr k∧hdT k≠sep):=by
 cases xs with
 |nil=>exact absurd rfl hne
 |cons x xs=>
  rw [Xu]
  intro r p k hN hL hs hk
  have hlen:xs.length≤BC:=by
   have h1:=aH sep g xs
   have h2:=congrArg N8 hs
   rw [KS,AA,AA] at h2
   have:=FL
   omega
  refine Rd.bind (K1:=Kr) (hr x (Aa ..) N (A7 _)) (Z4 h5 xs BC [x] (N - (g x).length) hlen (fun y hy M hM=>hr y (Ai _ hy) M (by omega))) (fun k hk=>?_) r p k hN hL hs hk
  cases xs with
  |nil=>exact hk.1
  |cons y ys=>exact h5 _
theorem OR {read:PM α} {g:α→List KT} {Kr:List KT→Prop} (h5:∀k,Kr ((5,[44])::k)) (h6:∀k,Kr ((5,[41])::k)) {xs:List α} (hne:xs≠[]) (hr:∀x∈xs,∀M,M≤N→Rd M read x (g x) Kr):Rd N (listed read) xs (cmK (xs.map g)++[(5,[41])]) K:=
 Rd.bind (XJ h5 hne hr) (Rd.C3 (Rd.exp 5) (Rd.pure xs) (fun _ h=>h)) (fun k _=>⟨h6 k,by simp [hdT]⟩)
theorem xP {read:PM α} {g:α→List KT} {Kr:List KT→Prop} (h5:∀k,Kr ((5,[44])::k)) (h6:∀k,Kr ((5,[41])::k)) {xs:List α} (hne:xs≠[]) (hr:∀x∈xs,∀M,M+1≤N→Rd M read x (g x) Kr) (n:PM (List α)) (ht:[40]≠[]):Rd N (.acc [40] ht (listed read) n) xs (Hu (cmK (xs.map g))) K:=by
 by_cases hN:N=0
 · subst hN
   intro r p k h1 _ hs _
   have:=congrArg N8 hs
   rw [KS] at this
   simp [Hu] at this
   omega
 · exact Rd.CQ 5 (OR h5 h6 hne (fun x hx M hM=>hr x hx M (by omega)))
theorem XK {read:PM α} {g:α→List KT} {Kr:List KT→Prop} (h5:∀k,Kr ((5,[44])::k)) (h6:∀k,Kr ((5,[41])::k)) (xs:List α) (hr:∀x∈xs,∀M,M+1≤N→Rd M read x (g x) Kr):Rd N (Ht read) xs (Ut (xs.map g)) (fun k=>xs=[]→hdT k≠[40]):=by
 cases xs with
 |nil=>exact Rd.BZ (fun k hk=>hk rfl) (Rd.pure _)
 |cons x xs=>exact xP h5 h6 (by simp) hr _ _
theorem aP {read:PM α} {g:α→List KT} {Kr:List KT→Prop} (h5:∀k,Kr ((5,[44])::k)) (h6:∀k,Kr ((5,[41])::k)) (xs:List α) (hr:∀x∈xs,∀M,M≤N→Rd M read x (g x) Kr) (hh:∀x∈xs,∀k,hdT (g x++k)≠[41]):Rd N (closed read) xs (cmK (xs.map g)++[(5,[41])]) K:=by
 cases xs with
 |nil=>exact Rd.CQ 5 (Rd.pure _)
 |cons x xs=>
  refine Rd.BZ (fun k _=>?_) (OR h5 h6 (by simp) hr)
  rw [cmK,Xu,AS,AS]
  exact hh x (Aa ..) _
theorem lH {s:Str} {k:Int} (hk:k=1∨k=2) (h:GH k s=true):Nl s=false:=by
 have:∀t,CK s= .ok (k,t)→t=s→Nl s=false:=fun t ht e=>by
  subst e
  obtain ⟨h1,_,_⟩:=Y1 0 ht
  rcases h1 with ⟨_,h⟩|h|h|h
  · exact h
  · simp only at h;omega
  · simp only at h;omega
  · have:=h.1;simp only at this;omega
 rcases hk with rfl|rfl
 · obtain ⟨b,r,rfl,h1,h2,h3,h4⟩:=Xz h
   refine this (b::r) ?_ rfl
   have ht:=Yn (p:=Bf FH) (s:=b::r) (rest:=[]) h2 (fun _ _ e=>by cases e)
   rw [A1] at ht
   rw [CK,ht,h1,(V8 h1).2.2,h4,decide_eq_false (by omega)];rfl
 · obtain ⟨b,r,rfl,h1,h2,h3⟩:=Vs h
   refine this (b::r) ?_ rfl
   have ht:=Yn (p:=Bf FH) (s:=b::r) (rest:=[]) h2 (fun _ _ e=>by cases e)
   rw [A1] at ht
   rw [CK,ht,h1,decide_eq_false (by omega),ON];rfl
theorem Nn {s t:Str} (h:Nl s=false) (ht:Nl t=true):s≠t:=fun e=>by rw [e,ht] at h;cases h
theorem V9 {s:Str} (h:D1 s=true):Nl s=false:=lH (.inl rfl) h
theorem lF {s:Str} (h:upperB s=true):Nl s=false:=lH (.inr rfl) h
theorem RO {s:Str} (h:GK s=true):Rd N GU s (shK s) K:=by
 unfold shK
 split
 · rename_i e;subst e;exact Rd.CQ 5 (Rd.pure _)
 · rename_i e
   simp only [GK,BM,beq_iff_eq] at h
   have hn:D1 s=true:=h.resolve_left e
   exact Rd.BZ (fun k _=>Nn (V9 hn) (by decide)) (Rd.take s)
end Go.Ab
