/- The tokens of formatted programs, in plain data. Reading the tokens of a formatted text back, in plain data: the rules. Conditions: none. -/
import Derived.Test.YtifplkldbbcldaaGreatDoorXQf
set_option linter.unusedSimpArgs false
set_option linter.unusedVariables false
set_option maxRecDepth 4000
set_option maxHeartbeats 8000000
open Bool renaming and_eq_true→AM,or_true→OJ,or_eq_true→BR
open List renaming all_eq_true→A6,append_nil→AY,map_append→Bj,map_cons→AF,map_nil→AI,mem_cons_of_mem→Ah,mem_cons_self→Aa,mem_cons→CK,drop→Gc,append_assoc→AT,length_drop→Ai,drop_drop→CA,length_append→AA,length_cons→AD,flatten_cons→Cb,length→RB
open Option renaming isSome_iff_exists→WD
open Nat renaming le_trans→BC,le_refl→A7
namespace Go.Ab
def NG (k:Int) (n:Str) (ts:List (List KT)):List KT:=
 if k=1 then [(4,[105,110,116])] else if k=2 then [(4,[98,111,111,108])] else if k=3 then [(4,[117,110,105,116])]
                                                                                             else if k=7 then (4,[97,114,114,97,121])::Ui ts else if k=8 then (4,[114,101,102])::Ui ts
                                                                                             else if k=9 then (4,[102,110])::(L4 ts.dropLast++((5,[45,62])::ts.getLastD []))
                                                                                             else if k=4 then [(1,n)] else if k=5 then (2,n)::Ui ts else Ui ts
mutual
def Hq:TE→List KT
 | .mk k n l=>NG k n (kN l)
def kN:List TE→List (List KT)
 |[]=>[]
 |t::l=>Hq t::kN l
end
theorem S8:∀l:List TE,kN l=l.map Hq
 |[]=>rfl
 |t::l=>by rw [kN,S8 l];rfl
theorem bP {k:Int} {n:Str} {q:Nat} (h:Cl k n q=true):k=1∨k=2∨k=3∨k=4∨k=5∨k=6∨k=7∨k=8∨k=9:=by
 unfold Cl at h
 split at h
 · omega
 · split at h
   · omega
   · split at h
     · omega
     · split at h
       · omega
       · split at h
         · omega
         · split at h
           · omega
           · cases h
theorem To {α:Type}:∀ {l:List α},1≤l.length→∃m x,l=m++[x]
 |[],h=>by simp at h
 |[x],_=>⟨[],x,rfl⟩
 |x::y::l,_=>by
  obtain ⟨m,z,e⟩:=To (l:=y::l) (by simp)
  exact ⟨x::m,z,by rw [e];rfl⟩
theorem qF:∀(d:Nat) (t:TE),Bi d t=true→Et (Co t) (Hq t)
 |0,.mk ..,h=>by cases h
 |d+1,.mk k n l,h=>by
  rw [Bi,AM,A6] at h
  obtain ⟨h1,h2⟩:=h
  have hl:=fun x hx=>qF d x (h2 x hx)
  rw [Co,Hq,P1,S8]
  have ho:=S4 Co Hq l hl
  have hk:=bP h1
  rcases hk with rfl|rfl|rfl|rfl|rfl|rfl|rfl|rfl|rfl
  · exact Tn (s:=[105,110,116]) (by decide)
  · exact Tn (s:=[98,111,111,108]) (by decide)
  · exact Tn (s:=[117,110,105,116]) (by decide)
  · simp [Cl] at h1
    obtain ⟨h1,h3⟩:=h1
    subst h3
    show Et (n++[]) [(1,n)]
    rw [AY]
    exact Ms h1
  · simp [Cl] at h1
    exact (Ob h1.1).ss (by have:=NC (l.map Co) (r:=[]) rfl;rwa [AY] at this) ho.s
  · simp [Cl] at h1
    rw [h1.1.1]
    exact ho.s
  · exact (Tn (s:=[97,114,114,97,121]) (by decide)).ss (by have:=NC (l.map Co) (r:=[]) rfl;rwa [AY] at this) ho.s
  · exact (Tn (s:=[114,101,102]) (by decide)).ss (by have:=NC (l.map Co) (r:=[]) rfl;rwa [AY] at this) ho.s
  · simp [Cl] at h1
    obtain ⟨m,x,rfl⟩:=To h1.1.2
    have hm:=Uc Co Hq m (fun y hy=>hl y (List.mem_append_left _ hy))
    have hx:=hl x (by simp)
    show Et ([102,110]++(I9 ((m++[x]).map Co).dropLast++([32,45,62,32]++((m++[x]).map Co).getLastD []))) ((4,[102,110])::(L4 ((m++[x]).map Hq).dropLast++((5,[45,62])::((m++[x]).map Hq).getLastD [])))
    simp only [Bj,AF,AI,List.dropLast_concat,List.getLastD_concat]
    exact (Tn (s:=[102,110]) (by decide)).ss rfl (hm.ss (S3.ss hx))
def atK (l:List (List KT)) (i:Nat):List KT:=l.getD i []
def plK (d:Nat) (k:Ex) (t:List KT):List KT:=if lvl k < d then Hn t else t
def AAX (ks:List Ex) (ts:List (List KT)):List KT:=match ks with
 |[]=>L4 ts.tail
 |k::_=>(if M2 k then Hn (atK ts 0) else plK 4 k (atK ts 0))++L4 ts.tail
def AAY (u:Int) (ks:List Ex) (ts:List (List KT)):List KT:=match ks with
 |[a,b]=>plK (if E7 u=1 then 2 else E7 u) a (atK ts 0)++((5,opT u)::plK (if E7 u=1 then 2 else E7 u+1) b (atK ts 1))
 |_=>[]
def tkN (o:Int) (n:Str) (u:Int) (ns:List Str) (ks:List Ex) (ts:List (List KT)) (aks:List (List KT)):List KT:=
 if o=7 then (4,[108,101,116])::(shK n++((5,[61])::(atK ts 0++((4,[105,110])::atK ts 1))))
                                                                 else if o=8 then (4,[108,101,116])::(Ui (ns.map shK)++((5,[61])::(atK ts 0++((4,[105,110])::atK ts 1))))
                                                                 else if o=9 then (4,[105,102])::(atK ts 0++((4,[116,104,101,110])::(atK ts 1++((4,[101,108,115,101])::atK ts 2))))
                                                                 else if o=10 then (4,[109,97,116,99,104])::(atK ts 0++((4,[119,105,116,104])::([(5,[124])].intercalate aks++[(4,[101,110,100])])))
                                                                 else if o=11 then (4,[102,110])::(L4 (ns.map fun s=>[(1,s)])++((5,[45,62])::atK ts 0))
                                                                 else if o=17 then (4,[116,114,121])::(atK ts 0++((4,[99,97,116,99,104])::(shK n++((5,[45,62])::(atK ts 1++[(4,[101,110,100])])))))
                                                                 else if o=13 then AAY u ks ts
                                                                 else if o=12 then AAX ks ts
                                                                 else if o=1 then [(5,[40]),(5,[41])]
                                                                 else if o=2 then (if u=1 then [(4,[116,114,117,101])] else [(4,[102,97,108,115,101])])
                                                                 else if o=3 then T3 u
                                                                 else if o=5 then L4 ts
                                                                 else if o=14 then (4,prT u)::L4 ts
                                                                 else if o=16 then (4,[114,97,105,115,101])::L4 ts
                                                                 else if o=15 then (4,[116,105,99,107])::Hn (T3 u)
                                                                 else if o=4 then [(1,n)]
                                                                 else (2,n)::Ui ts
def yU (c:Str) (vs:List Str) (b:List KT):List KT:=(2,c)::(Ui (vs.map shK)++((5,[45,62])::b))
mutual
def tkE:Ex→List KT
 | .mk o n u ns ks al=>tkN o n u ns ks (vG ks) (vF al)
def vG:List Ex→List (List KT)
 |[]=>[]
 |t::l=>tkE t::vG l
def tkA:Al→List KT
 | .mk c vs b=>yU c vs (tkE b)
def vF:List Al→List (List KT)
 |[]=>[]
 |t::l=>tkA t::vF l
end
theorem NF:∀l:List Ex,vG l=l.map tkE
 |[]=>rfl
 |t::l=>by rw [vG,NF l];rfl
theorem ND:∀l:List Al,vF l=l.map tkA
 |[]=>rfl
 |t::l=>by rw [vF,ND l];rfl
theorem kB {o u:Int} {q:Nat} (h:nkB o u q=true):o=1∨o=2∨o=3∨o=4∨o=5∨o=6∨o=7∨o=8∨o=9∨o=10∨o=11∨o=12∨o=13∨o=14∨o=15∨o=16∨o=17:=by
 unfold nkB at h
 repeat' (split at h)
 all_goals first|omega|cases h
theorem hG {d:Nat} {k:Ex} {t:Str} {q:List KT} (h:Et t q):Et (pl d k t) (plK d k q):=by
 unfold pl plK
 split
 · exact (Ud h).s
 · exact h
theorem ZQ {l:List Str} (h:l.all GF=true):∀s∈l,Et (shown s) (shK s):=fun s hs=>VS (A6.1 h s hs)
theorem yD {u:Int} (h1:1≤u) (h2:u≤8):Et (opT u) [(5,opT u)]:=by
 have h:u=1∨u=2∨u=3∨u=4∨u=5∨u=6∨u=7∨u=8:=by omega
 rcases h with rfl|rfl|rfl|rfl|rfl|rfl|rfl|rfl
 · exact (JN [43] (by decide) (by decide)).s
 · exact fun r hr=>bQ 45 (.inl rfl) (YZ hr)
 · exact (JN [42] (by decide) (by decide)).s
 · exact (JN [47] (by decide) (by decide)).s
 · exact (JN [37] (by decide) (by decide)).s
 · exact fun r hr=>bQ 60 (.inr (.inl rfl)) (YZ hr)
 · exact (JN [60,61] (by decide) (by decide)).s
 · exact (JN [61,61] (by decide) (by decide)).s
theorem qC {u:Int}:Et (prT u) [(4,prT u)]:=by
 unfold prT
 repeat' split
 all_goals exact Tn (by decide)
theorem WT {α:Type} {l:List α} (h:l.length=1):∃a,l=[a]:=by
 match l,h with
 |[a],_=>exact ⟨a,rfl⟩
theorem Sn {α:Type} {l:List α} (h:l.length=2):∃a b,l=[a,b]:=by
 match l,h with
 |[a,b],_=>exact ⟨a,b,rfl⟩
theorem gY {α:Type} {l:List α} (h:l.length=3):∃a b c,l=[a,b,c]:=by
 match l,h with
 |[a,b,c],_=>exact ⟨a,b,c,rfl⟩
theorem qB (o:Int) (n:Str) (u:Int) (ns:List Str) (ks:List Ex) (al:List Al) (hn:GM o n u ns ks.length al=true) (hk:∀x∈ks,Et (Ay x) (tkE x)) (ha:∀x∈al,Et (Mg x) (tkA x)):Et (Ay (.mk o n u ns ks al)) (tkE (.mk o n u ns ks al)):=by
 simp only [GM,AM] at hn
 obtain ⟨⟨⟨⟨hnm,hnu⟩,hns⟩,has⟩,hnk⟩:=hn
 rw [Ay,tkE,MW,NF,VG,ND]
 have hl:=Uc Ay tkE ks hk
 have ho:=S4 Ay tkE ks hk
 rcases kB hnk with rfl|rfl|rfl|rfl|rfl|rfl|rfl|rfl|rfl|rfl|rfl|rfl|rfl|rfl|rfl|rfl|rfl
 · exact (qA.a qE).s
 · show Et (if u=1 then [116,114,117,101] else [102,97,108,115,101]) (if u=1 then [(4,[116,114,117,101])] else [(4,[102,97,108,115,101])])
   split
   · exact Tn (by decide)
   · exact Tn (by decide)
 · simp [nuB] at hnu
   exact dN hnu.1 hnu.2
 · have:ks=[]:=by simpa [nkB] using hnk
   subst this
   show Et (n++[]) [(1,n)]
   rw [AY]
   exact Ms (by simpa [nmB] using hnm)
 · exact hl.s
 · exact (Ob (by simpa [nmB] using hnm)).ss (by have:=NC (ks.map Ay) (r:=[]) rfl;rwa [AY] at this) ho.s
 · obtain ⟨a,b,rfl⟩:=Sn (by simpa [nkB] using hnk)
   exact (Pl (s:=[108,101,116]) (by decide)).ss ((VS (by simpa [nmB] using hnm)).ss rfl (aY.ss ((hk a (by simp)).ss rfl ((VQ (s:=[105,110]) (by decide)).ss (hk b (by simp))))))
 · obtain ⟨a,b,rfl⟩:=Sn (by simpa [nkB] using hnk)
   simp only [nsB,if_true,AM] at hns
   exact (Pl (s:=[108,101,116]) (by decide)).ss ((S4 shown shK ns (ZQ hns.2)).ss (aY.ss ((hk a (by simp)).ss rfl ((VQ (s:=[105,110]) (by decide)).ss (hk b (by simp))))))
 · obtain ⟨a,b,c,rfl⟩:=gY (by simpa [nkB] using hnk)
   exact (Pl (s:=[105,102]) (by decide)).ss ((hk a (by simp)).ss rfl ((VQ (s:=[116,104,101,110]) (by decide)).ss ((hk b (by simp)).ss rfl ((VQ (s:=[101,108,115,101]) (by decide)).ss (hk c (by simp))))))
 · obtain ⟨a,rfl⟩:=WT (by simpa [nkB] using hnk)
   have hj:=Ub (sep:=[32,124,32]) (ks:=[(5,[124])]) (IF.a ((JN [124] (by decide) (by decide)).a IF)) rfl (by decide) Mg tkA al ha
   exact (Pl (s:=[109,97,116,99,104]) (by decide)).ss ((hk a (by simp)).ss rfl ((VQ (s:=[119,105,116,104]) (by decide)).ss (hj.ss rfl (j5 (s:=[101,110,100]) (by decide)))))
 · obtain ⟨a,rfl⟩:=WT (by simpa [nkB] using hnk)
   simp [nsB] at hns
   have hp:=Uc id (fun s=>[(1,s)]) ns (fun s hs=>Ms (hns.2 s hs))
   rw [List.map_id] at hp
   exact (Tn (s:=[102,110]) (by decide)).ss rfl (hp.ss (S3.ss (hk a (by simp))))
 · cases ks with
   |nil=>simp [nkB] at hnk
   |cons f l=>
    have hl2:=Uc Ay tkE l (fun x hx=>hk x (Ah _ hx))
    have hf:=hk f (Aa ..)
    show Et ((if M2 f then JH (Ay f) else pl 4 f (Ay f))++I9 (l.map Ay)) ((if M2 f then Hn (tkE f) else plK 4 f (tkE f))++L4 (l.map tkE))
    refine Et.ss ?_ rfl hl2.s
    split
    · exact (Ud hf).s
    · exact hG hf
 · obtain ⟨a,b,rfl⟩:=Sn (by simpa [nkB] using hnk)
   simp [nuB] at hnu
   exact (hG (hk a (by simp))).ss rfl (IF.ss ((yD hnu.1 hnu.2).ss rfl (IF.ss (hG (hk b (by simp))))))
 · exact (qC (u:=u)).ss rfl hl.s
 · simp [nuB] at hnu
   exact (Tn (s:=[116,105,99,107]) (by decide)).ss rfl (Ud (dN (by omega) (by omega))).s
 · exact (Tn (s:=[114,97,105,115,101]) (by decide)).ss rfl hl.s
 · obtain ⟨a,b,rfl⟩:=Sn (by simpa [nkB] using hnk)
   exact (Pl (s:=[116,114,121]) (by decide)).ss ((hk a (by simp)).ss rfl ((VQ (s:=[99,97,116,99,104]) (by decide)).ss ((VS (by simpa [nmB] using hnm)).ss rfl (S3.ss ((hk b (by simp)).ss rfl (j5 (s:=[101,110,100]) (by decide)))))))
theorem fP {o:Int} {al:List Al} (h:asB o al=true):∀a∈al,M1 a=true:=fun a ha=>by
 unfold asB at h
 split at h
 · simp only [AM,A6] at h;exact h.2 a ha
 · have:al=[]:=by simpa using h
   rw [this] at ha;cases ha
mutual
theorem gZ:∀(e:Ex),e.nb→Et (Ay e) (tkE e)
 | .mk o n u ns ks al,h=>by
  rw [Ex.nb] at h
  have h4:=h.1
  simp only [GM,AM] at h4
  exact qB o n u ns ks al h.1 (j6 ks h.2.1) (j3 al h.2.2 (fP h4.1.2))
theorem j6:∀(l:List Ex),Ex.nbs l→∀x∈l,Et (Ay x) (tkE x)
 |[],_,x,hx=>by cases hx
 |k::l,h,x,hx=>by
  rw [Ex.nbs] at h
  have h1:=gZ k h.1
  have h2:=j6 l h.2
  rcases CK.1 hx with rfl|hx
  · exact h1
  · exact h2 x hx
theorem yB:∀(a:Al),a.nb→M1 a=true→Et (Mg a) (tkA a)
 | .mk c vs b,h,ha=>by
  rw [Al.nb] at h
  simp only [M1,AM] at ha
  rw [Mg,tkA]
  exact (Ob ha.1.1).ss (NC _ rfl) ((S4 shown shK vs (ZQ ha.2)).ss (S3.ss (gZ b h)))
theorem j3:∀(l:List Al),Al.nbs l→(∀a∈l,M1 a=true)→∀x∈l,Et (Mg x) (tkA x)
 |[],_,_,x,hx=>by cases hx
 |k::l,h,ha,x,hx=>by
  rw [Al.nbs] at h
  have h1:=yB k h.1 (ha _ (Aa ..))
  have h2:=j3 l h.2 (fun a h=>ha a (Ah _ h))
  rcases CK.1 hx with rfl|hx
  · exact h1
  · exact h2 x hx
end
def tkC (c:CE):List KT:=(2,c.name)::Ui (c.args.map Hq)
def tkD (d:DE):List KT:=(4,[100,97,116,97])::(2,d.name)::(Ui (d.vars.map fun s=>[(1,s)])++((5,[61])::([(5,[124])].intercalate (d.cons.map tkC)++[(5,[59])])))
def tkF (f:FE):List KT:=(4,[102,117,110])::(1,f.name)::(L4 (f.params.map fun s=>[(1,s)])++((5,[61])::(tkE f.body++[(5,[59])])))
def tkP (p:Pg):List KT:=(p.data.map tkD).flatten++(p.RX.map tkF).flatten
theorem dO:GZ [59,10] [(5,[59])]:=(JN [59] (by decide) (by decide)).a yC
theorem tR {c:CE} (h:RT c=true):Et (fmtC c) (tkC c):=by
 simp only [RT,AM,A6] at h
 exact (Ob h.1.1).ss (by have:=NC (c.args.map Co) (r:=[]) rfl;rwa [AY] at this) (S4 Co Hq c.args (fun t ht=>qF 40 t (h.2 t ht))).s
theorem p9 {d:DE} (h:G6 d=true):GZ (Th d) (tkD d):=by
 simp only [G6,AM,A6] at h
 obtain ⟨⟨⟨⟨⟨h1,h2⟩,h3⟩,h4⟩,h5⟩,h6⟩:=h
 have hp:=S4 id (fun s=>[(1,s)]) d.vars (fun s hs=>Ms (h3 s hs))
 rw [List.map_id] at hp
 have hj:=Ub (sep:=[32,124,32]) (ks:=[(5,[124])]) (IF.a ((JN [124] (by decide) (by decide)).a IF)) rfl (by decide) fmtC tkC d.cons (fun c hc=>tR (h6 c hc))
 exact (Pl (s:=[100,97,116,97]) (by decide)).a ((Ob h1).a (NC _ rfl) (by simp) (hp.a (aY.a (hj.a rfl (by decide) dO))))
theorem tS {f:FE} (h:Ml f=true) (hb:f.body.nb):GZ (VH f) (tkF f):=by
 simp only [Ml,AM,A6] at h
 have hp:=Uc id (fun s=>[(1,s)]) f.params (fun s hs=>Ms (h.2 s hs))
 rw [List.map_id] at hp
 exact (Pl (s:=[102,117,110]) (by decide)).a ((Ms h.1.1).a rfl (by simp [I9,JH]) (hp.a (aY.a ((gZ _ hb).a rfl (by decide) dO))))
theorem Xl {α:Type} (f:α→Str) (g:α→List KT):∀l:List α,(∀x∈l,GZ (f x) (g x))→GZ (l.map f).flatten (l.map g).flatten
 |[],_=>GZ.nil
 |x::l,h=>(h x (Aa ..)).a (Xl f g l (fun y hy=>h y (Ah _ hy)))
theorem eY {p:Pg} (h:Cw p=true):(∀d∈p.data,G6 d=true)∧∀f∈p.RX,Ml f=true∧f.body.nb:=by
 simp only [Cw,AM,A6] at h
 obtain ⟨r,hr⟩:=WD.1 h.2
 refine ⟨h.1.2,OV p.RX 600 r (fun f _ a b hab=>?_) hr⟩
 unfold PG at hab
 split at hab
 · rename_i hh;exact ⟨hh,bX 40 a f.body b hab⟩
 · cases hab
theorem qD {p:Pg} (h:Cw p=true):GZ (Ys p) (tkP p):=by
 obtain ⟨h1,h2⟩:=eY h
 exact (Xl Th tkD p.data (fun d hd=>p9 (h1 d hd))).a (Xl VH tkF p.RX (fun f hf=>tS (h2 f hf).1 (h2 f hf).2))
theorem nO {s:Str} {ks:List KT} (h:GZ s ks) (hl:s.length≤16384):(BG s).2.2=0∧strip (BG s).1=ks++[(6,[])]:=by
 unfold BG
 rw [if_neg (by omega)]
 obtain ⟨n,i,acc,e1,e2,e3⟩:=h [] (s.length+1) 0 [] (by simp)
 rw [AY] at e3
 rw [e3]
 cases n with
 |zero=>simp at e2
 |succ n=>
  rw [DW]
  refine ⟨rfl,?_⟩
  show strip (acc++[⟨6,[],i⟩])=_
  rw [strip,Bj]
  rw [strip] at e1
  rw [e1];rfl
end Go.Ab
namespace Go.Ab
def hdT (k:List KT):Str:=(k.headD (6,[])).2
def hdK (k:List KT):Int:=(k.headD (6,[])).1
def noT (l:List Str) (k:List KT):Prop:=l.contains (hdT k)=false
def Rd {α:Type} (N:Nat) (m:PM α) (a:α) (ks:List KT) (K:List KT→Prop):Prop:=
 ∀r p k,r.length≤N→r.length≤17000→strip r=ks++k→K k→m.run ⟨r,false,p⟩=(a,⟨r.drop ks.length,false,p⟩)
def Ac (N:Nat) (m:PM Ex) (c:Nat→Ex→PM Ex) (e:Ex) (ks:List KT) (K:List KT→Prop):Prop:=
 ∃j,j≤ks.length∧∀r p k,r.length≤N→r.length≤17000→strip r=ks++k→K k→m.run ⟨r,false,p⟩=(c (BF - j) e).run ⟨r.drop ks.length,false,p⟩
variable {α β:Type} {N:Nat} {K:List KT→Prop}
theorem PE (r:List Tok):(strip r).length=r.length:=by simp [strip]
theorem KJ {r:List Tok} {ks k:List KT} (h:strip r=ks++k):strip (r.drop ks.length)=k:=by
 have:=congrArg (Gc ks.length) h
 rw [List.drop_left] at this
 rw [← this,strip,strip,List.map_drop]
theorem GX {r:List Tok} {k:List KT} (h:strip r=k):(r.headD Tz).text=hdT k∧(r.headD Tz).kind=hdK k:=by
 subst h
 cases r with
 |nil=>exact ⟨rfl,rfl⟩
 |cons t l=>exact ⟨rfl,rfl⟩
theorem Rd.mono {m:PM α} {a:α} {ks:List KT} {M:Nat} (h:Rd N m a ks K) (hM:M≤N):Rd M m a ks K:=fun r p k h1=>h r p k (BC h1 hM)
theorem Rd.imp {m:PM α} {a:α} {ks:List KT} {K':List KT→Prop} (h:Rd N m a ks K) (hK:∀k,K' k→K k):Rd N m a ks K':=fun r p k h1 h2 h3 h4=>h r p k h1 h2 h3 (hK k h4)
theorem Rd.pure (a:α):Rd N (.pure a) a [] K:=fun _ _ _ _ _ _ _=>rfl
theorem Rd.bind {m:PM α} {f:α→PM β} {a:α} {b:β} {k1 k2:List KT} {K1:List KT→Prop} (h1:Rd N m a k1 K1) (h2:Rd (N - k1.length) (f a) b k2 K) (hK:∀k,K k→K1 (k2++k)):Rd N (m.bind f) b (k1++k2) K:=fun r p k hN hL hs hk=>by
 rw [AT] at hs
 have e1:=h1 r p (k2++k) hN hL hs (hK k hk)
 have e2:=h2 (r.drop k1.length) p k (by rw [Ai];omega) (by rw [Ai];omega) (KJ hs) hk
 show (f (m.run ⟨r,false,p⟩).1).run (m.run ⟨r,false,p⟩).2=_
 rw [e1]
 show (f a).run ⟨r.drop k1.length,false,p⟩=_
 rw [e2,CA,AA]
theorem Rd.CW {m:PM α} {f:α→PM β} {a:α} {b:β} {q:KT} {k2:List KT} {K1:List KT→Prop} (h1:Rd N m a [q] K1) (h2:Rd (N - 1) (f a) b k2 K) (hK:∀k,K k→K1 (k2++k)):Rd N (m.bind f) b (q::k2) K:=Rd.bind h1 h2 hK
theorem Rd.map {m:PM α} {a:α} {ks:List KT} (g:α→β) (h:Rd N m a ks K):Rd N (m.map g) (g a) ks K:=by
 have:=Rd.bind (f:=fun a=>PM.pure (g a)) h (Rd.pure (K:=K) (g a)) (fun k h=>h)
 rwa [AY] at this
theorem Rd.CL {t:Str} {ht:t≠[]} {y n:PM α} {a:α} {ks:List KT} (q:Int) (h:Rd (N - 1) y a ks K):Rd N (.acc t ht y n) a ((q,t)::ks) K:=fun r p k hN hL hs hk=>by
 have hh:=(GX hs).1
 rw [qU (by rw [hh];simp [hdT])]
 have e:=h r.tail p k (by rw [List.length_tail];omega) (by rw [List.length_tail];omega) (by have:=KJ (ks:=[(q,t)]) hs;simpa using this) hk
 rw [e,AD,← List.drop_one,CA,Nat.add_comm]
theorem Rd.BW {t:Str} {ht:t≠[]} {y n:PM α} {a:α} {ks:List KT} (hn:∀k,K k→hdT (ks++k)≠t) (h:Rd N n a ks K):Rd N (.acc t ht y n) a ks K:=fun r p k hN hL hs hk=>by
 have hh:=(GX hs).1
 rw [Ru (by rw [hh];simpa using hn k hk)]
 exact h r p k hN hL hs hk
theorem Rd.Xi {k0:Int} {y n:PM α} {a:α} {t:Str} {ks:List KT} (h:Rd N y a ((k0,t)::ks) K):Rd N (.kind k0 y n) a ((k0,t)::ks) K:=fun r p k hN hL hs hk=>by
 have hh:=(GX hs).2
 have e:(PM.kind k0 y n).run ⟨r,false,p⟩=y.run ⟨r,false,p⟩:=if_pos (by rw [PSt.hd,hh];simp [hdK])
 rw [e];exact h r p k hN hL hs hk
theorem Rd.CY {k0:Int} {y n:PM α} {a:α} {ks:List KT} (hn:∀k,K k→hdK (ks++k)≠k0) (h:Rd N n a ks K):Rd N (.kind k0 y n) a ks K:=fun r p k hN hL hs hk=>by
 have hh:=(GX hs).2
 have e:(PM.kind k0 y n).run ⟨r,false,p⟩=n.run ⟨r,false,p⟩:=if_neg (by rw [PSt.hd,hh];simpa using hn k hk)
 rw [e];exact h r p k hN hL hs hk
theorem drop1 (r:List Tok):r.drop 1=r.tail:=List.drop_one
theorem Rd.exp {t:Str} {ht:t≠[]} (q:Int):Rd N (PM.exp t ht) () [(q,t)] K:=fun r p k _ _ hs _=>by
 have hh:=(GX hs).1
 have e:(PM.exp t ht).run ⟨r,false,p⟩=((),⟨r.tail,false,p⟩):=if_pos (by simp only [PSt.hd,hh];simp [hdT])
 rw [e,← drop1];rfl
theorem Rd.take {q:Int} {hq:q≠6} (s:Str):Rd N (PM.take q hq) s [(q,s)] K:=fun r p k _ _ hs _=>by
 obtain ⟨h1,h2⟩:=GX hs
 have e:(PM.take q hq).run ⟨r,false,p⟩=((r.headD Tz).text,⟨r.tail,false,p⟩):=if_pos (by simp only [PSt.hd,h2];simp [hdK])
 rw [e,h1,← drop1];rfl
def Zo (sep:Str) (g:α→List KT) (xs:List α):List KT:=(xs.map fun x=>(5,sep)::g x).flatten
theorem Xg (sep:Str) (g:α→List KT):∀(x:α) (xs:List α),[((5:Int),sep)].intercalate ((x::xs).map g)=g x++Zo sep g xs
 |x,[]=>by simp [Zo]
 |x,y::xs=>by
  have ih:=Xg sep g y xs
  simp only [AF] at ih ⊢
  rw [aP,ih]
  simp [Zo]
theorem Zp (sep:Str) (g:α→List KT):∀xs:List α,xs.length≤(Zo sep g xs).length
 |[]=>A7 _
 |x::xs=>by
  have:=Zp sep g xs
  simp only [Zo,AF,Cb,AA,AD] at this ⊢;omega
theorem ZN {read:PM α} {sep:Str} {hsep:sep≠[]} {g:α→List KT} {Kr:List KT→Prop} (h5:∀k,Kr ((5,sep)::k)):∀(xs:List α) (n:Nat) (acc:List α) (N:Nat),xs.length≤n→(∀x∈xs,∀M,M≤N→Rd M read x (g x) Kr)→Rd N (ES read sep hsep n acc) (acc++xs) (Zo sep g xs) (fun k=>Kr k∧hdT k≠sep)
 |[],n,acc,N,_,_=>by
  rw [AY]
  cases n with
  |zero=>exact Rd.pure _
  |succ n=>exact Rd.BW (fun k hk=>hk.2) (Rd.pure _)
 |x::xs,0,acc,N,h,_=>by simp at h
 |x::xs,n+1,acc,N,h,hr=>by
  have ih:=ZN (hsep:=hsep) h5 xs n (acc++[x]) (N - 1 - (g x).length) (by simp at h;omega) (fun y hy M hM=>hr y (Ah _ hy) M (by omega))
  rw [AT] at ih
  refine Rd.CL 5 (Rd.bind (hr x (Aa ..) (N - 1) (by omega)) ih (fun k hk=>?_))
  cases xs with
  |nil=>exact hk.1
  |cons y ys=>exact h5 _
theorem Ws {read:PM α} {sep:Str} {hsep:sep≠[]} {g:α→List KT} {Kr:List KT→Prop} (h5:∀k,Kr ((5,sep)::k)) {xs:List α} (hne:xs≠[]) (hr:∀x∈xs,∀M,M≤N→Rd M read x (g x) Kr):Rd N (items read sep hsep) xs ([((5:Int),sep)].intercalate (xs.map g)) (fun k=>Kr k∧hdT k≠sep):=by
 cases xs with
 |nil=>exact absurd rfl hne
 |cons x xs=>
  rw [Xg]
  intro r p k hN hL hs hk
  have hlen:xs.length≤BF:=by
   have h1:=Zp sep g xs
   have h2:=congrArg RB hs
   rw [PE,AA,AA] at h2
   have:=FZ
   omega
  refine Rd.bind (K1:=Kr) (hr x (Aa ..) N (A7 _)) (ZN h5 xs BF [x] (N - (g x).length) hlen (fun y hy M hM=>hr y (Ah _ hy) M (by omega))) (fun k hk=>?_) r p k hN hL hs hk
  cases xs with
  |nil=>exact hk.1
  |cons y ys=>exact h5 _
theorem OO {read:PM α} {g:α→List KT} {Kr:List KT→Prop} (h5:∀k,Kr ((5,[44])::k)) (h6:∀k,Kr ((5,[41])::k)) {xs:List α} (hne:xs≠[]) (hr:∀x∈xs,∀M,M≤N→Rd M read x (g x) Kr):Rd N (listed read) xs (cmK (xs.map g)++[(5,[41])]) K:=
 Rd.bind (Ws h5 hne hr) (Rd.CW (Rd.exp 5) (Rd.pure xs) (fun _ h=>h)) (fun k _=>⟨h6 k,by simp [hdT]⟩)
theorem wQ {read:PM α} {g:α→List KT} {Kr:List KT→Prop} (h5:∀k,Kr ((5,[44])::k)) (h6:∀k,Kr ((5,[41])::k)) {xs:List α} (hne:xs≠[]) (hr:∀x∈xs,∀M,M+1≤N→Rd M read x (g x) Kr) (n:PM (List α)) (ht:[40]≠[]):Rd N (.acc [40] ht (listed read) n) xs (Hn (cmK (xs.map g))) K:=by
 by_cases hN:N=0
 · subst hN
   intro r p k h1 _ hs _
   have:=congrArg RB hs
   rw [PE] at this
   simp [Hn] at this
   omega
 · exact Rd.CL 5 (OO h5 h6 hne (fun x hx M hM=>hr x hx M (by omega)))
theorem Wt {read:PM α} {g:α→List KT} {Kr:List KT→Prop} (h5:∀k,Kr ((5,[44])::k)) (h6:∀k,Kr ((5,[41])::k)) (xs:List α) (hr:∀x∈xs,∀M,M+1≤N→Rd M read x (g x) Kr):Rd N (IH read) xs (Ui (xs.map g)) (fun k=>xs=[]→hdT k≠[40]):=by
 cases xs with
 |nil=>exact Rd.BW (fun k hk=>hk rfl) (Rd.pure _)
 |cons x xs=>exact wQ h5 h6 (by simp) hr _ _
theorem Zx {read:PM α} {g:α→List KT} {Kr:List KT→Prop} (h5:∀k,Kr ((5,[44])::k)) (h6:∀k,Kr ((5,[41])::k)) (xs:List α) (hr:∀x∈xs,∀M,M≤N→Rd M read x (g x) Kr) (hh:∀x∈xs,∀k,hdT (g x++k)≠[41]):Rd N (closed read) xs (cmK (xs.map g)++[(5,[41])]) K:=by
 cases xs with
 |nil=>exact Rd.CL 5 (Rd.pure _)
 |cons x xs=>
  refine Rd.BW (fun k _=>?_) (OO h5 h6 (by simp) hr)
  rw [cmK,Xg,AT,AT]
  exact hh x (Aa ..) _
theorem kS {s:Str} {k:Int} (hk:k=1∨k=2) (h:GB k s=true):Ni s=false:=by
 have:∀t,D0 s= .ok (k,t)→t=s→Ni s=false:=fun t ht e=>by
  subst e
  obtain ⟨h1,_,_⟩:=YO 0 ht
  rcases h1 with ⟨_,h⟩|h|h|h
  · exact h
  · simp only at h;omega
  · simp only at h;omega
  · have:=h.1;simp only at this;omega
 rcases hk with rfl|rfl
 · obtain ⟨b,r,rfl,h1,h2,h3,h4⟩:=Xo h
   refine this (b::r) ?_ rfl
   have ht:=bV (p:=CH GC) (s:=b::r) (rest:=[]) h2 (fun _ _ e=>by cases e)
   rw [AY] at ht
   rw [D0,ht,h1,(VT h1).2.2,h4,decide_eq_false (by omega)];rfl
 · obtain ⟨b,r,rfl,h1,h2,h3⟩:=Vd h
   refine this (b::r) ?_ rfl
   have ht:=bV (p:=CH GC) (s:=b::r) (rest:=[]) h2 (fun _ _ e=>by cases e)
   rw [AY] at ht
   rw [D0,ht,h1,decide_eq_false (by omega),OJ];rfl
theorem Nj {s t:Str} (h:Ni s=false) (ht:Ni t=true):s≠t:=fun e=>by rw [e,ht] at h;cases h
theorem VU {s:Str} (h:DU s=true):Ni s=false:=kS (.inl rfl) h
theorem kQ {s:Str} (h:upperB s=true):Ni s=false:=kS (.inr rfl) h
theorem RE {s:Str} (h:GF s=true):Rd N GN s (shK s) K:=by
 unfold shK
 split
 · rename_i e;subst e;exact Rd.CL 5 (Rd.pure _)
 · rename_i e
   simp only [GF,BR,beq_iff_eq] at h
   have hn:DU s=true:=h.resolve_left e
   exact Rd.BW (fun k _=>Nj (VU hn) (by decide)) (Rd.take s)
end Go.Ab
