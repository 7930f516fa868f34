/- Programs with their variables set apart, in plain data: validity, names and calls stay. Programs with their variables set apart: local. Programs with their variables set apart: the kids and the alternatives. Conditions: none. -/
import Derived.Test.YtlckhmkeihbhmaaGreatXXb
set_option linter.unusedSimpArgs false
set_option linter.unusedVariables false
set_option maxRecDepth 4000
set_option maxHeartbeats 8000000
open Bool renaming eq_iff_iff→Af,eq_false_iff→Bw,or_eq_true→Cp,and_eq_true→AN,or_false→Gg,or_true→MA
open List renaming mem_append→A6,length_cons→A5,foldlM_cons→E4,mem_cons→BW,mem_cons_self→Ai,mem_cons_of_mem→Ao,contains_eq_mem→OP,map_append→CR,map_cons→AH,all_eq_true→Aj,mem_map→CN,length_map→AA,getElem?_map→Ad,mem_of_getElem?→AS,any_cons→IP,getElem?_cons_succ→Gs,mem_singleton→B6,take_of_length_le→AG,map_nil→AM,length_take→Ae
open Option renaming bind_eq_bind→AL,bind_eq_some_iff→AB,bind_some→Di,isSome_iff_exists→Gi,map_some→Bl,map_eq_some_iff→AE
open Nat renaming add_zero→D5,zero_le→C1,le_refl→A0,zero_add→An
open Int renaming reduceBEq→AW
namespace Go.Ab
abbrev qq:Str:=[81,81]
def s2 (s:Str):Str:=if s=[] then [] else s++qq
theorem aD {s:Str} (h:s≠[]):s2 s=s++qq:=if_neg h
theorem Sy {s:Str}:s2 s=[]↔s=[]:=by
 unfold s2
 split
 · rename_i h;simp [h]
 · simp_all
theorem Yl (s t:Str):(s2 s==s2 t)=(s==t):=by
 rw [Af,beq_iff_eq,beq_iff_eq]
 refine ⟨fun h=>?_,fun h=>by rw [h]⟩
 by_cases hs:s=[]
 · subst hs;exact (Sy.1 (by rw [← h];rfl)).symm
 · by_cases ht:t=[]
   · subst ht;exact absurd (Sy.1 (by rw [h];rfl)) hs
   · rw [aD hs,aD ht] at h;exact List.append_cancel_right h
theorem Yk (s:Str):(s2 s==[])=(s==[]):=by
 rw [Af,beq_iff_eq,beq_iff_eq];exact Sy
theorem sA (s:Str):YY (s++qq)=false:=by
 rw [Bw]
 intro h
 simp only [YY,List.any_eq_true,beq_iff_eq] at h
 obtain ⟨w,hw,he⟩:=h
 have:∀w∈HB,(81:UInt8) ∉ w:=by decide
 exact this w hw (by rw [← he];simp)
theorem Zg {s:Str} (h:Cv s=true) (hl:s.length≤22):Cv (s++qq)=true:=by
 obtain ⟨b,r,rfl,h1,h2,h3,h4⟩:=lG h
 refine n9 ⟨b,r++qq,rfl,h1,fun x hx=>?_,by simp at hl ⊢;omega,sA _⟩
 rw [A6] at hx
 rcases hx with hx|hx
 · exact h2 x hx
 · simp at hx;subst hx;decide
theorem V5 {s:Str} (h:Cv s=true) (hl:s.length≤22):Cv (s2 s)=true:=by
 rw [aD (Zf h)];exact Zg h hl
theorem U8 {s:Str} (h:LZ s=true) (hl:s.length≤22):LZ (s2 s)=true:=by
 simp only [LZ,Cp] at h ⊢
 rcases h with h|h
 · left;rw [Yk];exact h
 · right;exact V5 h hl
def S7 (o:Int) (n:Str) (ns sc:List Str) (i:Nat):List Str:=
 if (o=7∨o=17)∧i=1 then sc++[n] else if (o=8∧i=1)∨o=11 then sc++ns else sc
def M8 (o:Int) (n:Str) (sc:List Str):Str:=if o=4 then (if sc.contains n then n++qq else n) else if o=7∨o=17 then s2 n else n
mutual
def Ex.loc:Ex→List Str→Ex
 | .mk o n u ns ks al,sc=>.mk o (M8 o n sc) u (ns.map s2) (Ep o n ns sc 0 ks) (Fa sc al)
def Ep (o:Int) (n:Str) (ns sc:List Str):Nat→List Ex→List Ex
 |_,[]=>[]
 |i,k::l=>k.loc (S7 o n ns sc i)::Ep o n ns sc (i+1) l
def Al.loc:Al→List Str→Al
 | .mk c vs b,sc=>.mk c (vs.map s2) (b.loc (sc++vs))
def Fa (sc:List Str):List Al→List Al
 |[]=>[]
 |a::l=>a.loc sc::Fa sc l
end
theorem M6 (sc:List Str):∀l:List Al,Fa sc l=l.map (fun a=>a.loc sc)
 |[]=>rfl
 |a::l=>by rw [Fa,M6 sc l];rfl
theorem M7 (o:Int) (n:Str) (ns sc:List Str):∀(l:List Ex) (i:Nat),(Ep o n ns sc i l).length=l.length
 |[],_=>rfl
 |k::l,i=>by rw [Ep,A5,M7 o n ns sc l (i+1),A5]
def FE.loc (f:FE):FE:=⟨f.name,f.params.map s2,f.body.loc f.params⟩
def Pg.loc (p:Pg):Pg:=⟨p.data,p.Hp.map FE.loc⟩
mutual
def Ex.vn:Ex→Prop
 | .mk o n _ _ ks al=>(o=4→n≠[])∧Ex.vns ks∧Al.vns al
def Ex.vns:List Ex→Prop
 |[]=>True
 |t::l=>t.vn∧Ex.vns l
def Al.vn:Al→Prop
 | .mk _ _ b=>b.vn
def Al.vns:List Al→Prop
 |[]=>True
 |t::l=>t.vn∧Al.vns l
end
theorem Ex.N6:∀ {l:List Ex},Ex.vns l↔∀t∈l,t.vn
 |[]=>by simp [Ex.vns]
 |t::l=>by simp [Ex.vns,Ex.N6 (l:=l)]
theorem Al.N6:∀ {l:List Al},Al.vns l↔∀t∈l,t.vn
 |[]=>by simp [Al.vns]
 |t::l=>by simp [Al.vns,Al.N6 (l:=l)]
theorem PY {α:Type} {f:Nat→α→Option Nat} {Q:α→Prop}:∀(l:List α) (q r:Nat),(∀x∈l,∀a b,f a x=some b→Q x)→l.foldlM f q=some r→∀x∈l,Q x
 |[],_,_,_,_,x,hx=>by cases hx
 |y::l,q,r,hf,h,x,hx=>by
  rw [E4,AL,AB] at h
  obtain ⟨b,hb,h⟩:=h
  rcases BW.1 hx with rfl|hx
  · exact hf _ (Ai ..) q b hb
  · exact PY l b r (fun z hz=>hf z (Ao _ hz)) h x hx
theorem eA:∀(d q:Nat) (e:Ex) (r:Nat),vEx d q e=some r→e.vn
 |0,q,.mk ..,r,h=>by simp [vEx] at h
 |d+1,0,.mk ..,r,h=>by cases h
 |d+1,q+1,.mk o n u ns ks al,r,h=>by
  simp only [vEx] at h
  split at h
  · rename_i hn
    rw [AB] at h
    obtain ⟨c,hc,h⟩:=h
    rw [Ex.vn,Ex.N6,Al.N6]
    refine ⟨fun ho=>V7 (e:= .mk o n u ns ks al) hn ho,PY ks q c (fun x _ a b hab=>eA d a x b hab) hc,PY al c r (fun x _ a b hab=>?_) h⟩
    obtain ⟨cc,vs,bd⟩:=x
    rw [Al.vn]
    exact eA d a bd b hab
  · cases h
def Sim (sc sc':List Str):Prop:=∀n:Str,n≠[]→sc.contains n=sc'.contains n
theorem Sim.refl (sc:List Str):Sim sc sc:=fun _ _=>rfl
theorem Sim.app {sc sc':List Str} (h:Sim sc sc') (l:List Str):Sim (sc++l) (sc'++l):=fun n hn=>by
 have:=h n hn
 simp only [OP,A6,Bool.decide_or] at this ⊢
 rw [this]
theorem Sim.inn {sc sc':List Str} (h:Sim sc sc') (o:Int) (n:Str) (ns:List Str) (i:Nat):Sim (S7 o n ns sc i) (S7 o n ns sc' i):=by
 unfold S7
 split
 · exact h.app _
 · split
   · exact h.app _
   · exact h
theorem sB (o:Int) (n:Str) (ns sc:List Str) (i:Nat):Sim (S7 o n ns sc i) (FV o n ns sc i):=by
 unfold S7 FV
 split
 · split
   · rename_i hn
     subst hn
     intro m hm
     simp [OP,hm]
   · exact Sim.refl _
 · exact Sim.refl _
theorem lA {o:Int} {n:Str} {sc sc':List Str} (hn:o=4→n≠[]) (h:Sim sc sc'):M8 o n sc=M8 o n sc':=by
 unfold M8
 split
 · rename_i h4;rw [h n (hn h4)]
 · rfl
mutual
theorem Y4:∀(e:Ex) (sc sc':List Str),e.vn→Sim sc sc'→e.loc sc=e.loc sc'
 | .mk o n u ns ks al,sc,sc',hv,h=>by
  rw [Ex.vn] at hv
  rw [Ex.loc,Ex.loc,lA hv.1 h,X8 o n ns ks 0 sc sc' hv.2.1 h,X6 al sc sc' hv.2.2 h]
theorem X8 (o:Int) (n:Str) (ns:List Str):∀(l:List Ex) (i:Nat) (sc sc':List Str),Ex.vns l→Sim sc sc'→Ep o n ns sc i l=Ep o n ns sc' i l
 |[],_,_,_,_,_=>by rw [Ep,Ep]
 |k::l,i,sc,sc',hv,h=>by
  rw [Ex.vns] at hv
  rw [Ep,Ep,Y4 k _ _ hv.1 (h.inn o n ns i),X8 o n ns l (i+1) sc sc' hv.2 h]
theorem k9:∀(a:Al) (sc sc':List Str),a.vn→Sim sc sc'→a.loc sc=a.loc sc'
 | .mk c vs b,sc,sc',hv,h=>by
  rw [Al.vn] at hv
  rw [Al.loc,Al.loc,Y4 b _ _ hv (h.app vs)]
theorem X6:∀(l:List Al) (sc sc':List Str),Al.vns l→Sim sc sc'→Fa sc l=Fa sc' l
 |[],_,_,_,_=>by rw [Fa,Fa]
 |a::l,sc,sc',hv,h=>by
  rw [Al.vns] at hv
  rw [Fa,Fa,k9 a sc sc' hv.1 h,X6 l sc sc' hv.2 h]
end
def Zd (x:Ex×List Str):Ex×List Str:=(x.1.loc x.2,x.2.map s2)
theorem kS (o:Int) (n:Str) (ns sc:List Str) (i:Nat):FV o (M8 o n sc) (ns.map s2) (sc.map s2) i=(FV o n ns sc i).map s2:=by
 unfold FV
 by_cases h:(o=7∨o=17)∧i=1
 · have h4:o≠4:=by omega
   have hl:M8 o n sc=s2 n:=by rw [M8,if_neg h4,if_pos h.1]
   rw [if_pos h,if_pos h,hl]
   by_cases hn:n=[]
   · rw [if_pos hn,if_pos (Sy.2 hn)]
   · rw [if_neg hn,if_neg (fun h=>hn (Sy.1 h)),CR];rfl
 · rw [if_neg h,if_neg h]
   split
   · rw [CR]
   · rfl
mutual
theorem Rn:∀(e:Ex) (sc:List Str),e.vn→B7 (e.loc sc) (sc.map s2)=(B7 e sc).map Zd
 | .mk o n u ns ks al,sc,hv=>by
  rw [Ex.vn] at hv
  rw [Ex.loc,B7,B7,AH,CR,Xe o n ns sc 0 ks hv.2.1,Xd sc al hv.2.2]
  rw [Zd,Ex.loc]
theorem Xe (o:Int) (n:Str) (ns sc:List Str):∀(i:Nat) (l:List Ex),Ex.vns l→B9 o (M8 o n sc) (ns.map s2) (sc.map s2) i (Ep o n ns sc i l)=(B9 o n ns sc i l).map Zd
 |i,[],_=>by rw [Ep,B9,B9];rfl
 |i,k::l,hv=>by
  rw [Ex.vns] at hv
  rw [Ep,B9,B9,CR,kS,Y4 k _ _ hv.1 (sB o n ns sc i),Rn k _ hv.1,Xe o n ns sc (i+1) l hv.2]
theorem lX:∀(a:Al) (sc:List Str),a.vn→Ot (a.loc sc) (sc.map s2)=(Ot a sc).map Zd
 | .mk c vs b,sc,hv=>by rw [Al.vn] at hv;rw [Al.loc,Ot,Ot,← CR,Rn b _ hv]
theorem Xd (sc:List Str):∀l:List Al,Al.vns l→Bj (sc.map s2) (Fa sc l)=(Bj sc l).map Zd
 |[],_=>by rw [Fa,Bj,Bj];rfl
 |a::l,hv=>by rw [Al.vns] at hv;rw [Fa,Bj,Bj,CR,lX a sc hv.1,Xd sc l hv.2]
end
theorem Xw {p:Str→Bool} (hp:∀s,p s=true→s.length≤22→p (s2 s)=true) {l:List Str} (h:l.all p=true) (hs:XD 22 l):(l.map s2).all p=true:=by
 rw [Aj] at h ⊢
 intro x hx
 obtain ⟨s,hm,rfl⟩:=CN.1 hx
 exact hp s (h s hm) (hs s hm)
theorem jS {a:Al} (sc:List Str) (h:Nv a=true) (hs:a.sh 22):Nv (a.loc sc)=true:=by
 obtain ⟨c,vs,b⟩:=a
 rw [Al.loc]
 simp only [Nv,AN,AA] at h ⊢
 rw [Al.sh] at hs
 exact ⟨h.1,Xw (fun s hs hl=>U8 hs hl) h.2 hs.1⟩
theorem oA {o:Int} {n:Str} (sc:List Str) (h:nmB o n=true) (hl:n.length≤22):nmB o (M8 o n sc)=true:=by
 unfold nmB M8 at *
 by_cases h4:o=4
 · rw [if_pos h4] at h ⊢
   rw [if_pos h4]
   split
   · exact Zg h hl
   · exact h
 · rw [if_neg h4] at h ⊢
   rw [if_neg h4]
   by_cases h7:o=7∨o=17
   · have h6:o≠6:=by omega
     rw [if_neg h6,if_pos h7] at h ⊢
     rw [if_pos h7]
     exact U8 h hl
   · rw [if_neg h7];exact h
theorem oG {o:Int} {ns:List Str} (h:nsB o ns=true) (hs:XD 22 ns):nsB o (ns.map s2)=true:=by
 unfold nsB at h ⊢
 rw [AA]
 by_cases h8:o=8
 · rw [if_pos h8] at h ⊢
   simp only [AN] at h ⊢
   exact ⟨h.1,Xw (fun s hs hl=>U8 hs hl) h.2 hs⟩
 · rw [if_neg h8] at h ⊢
   by_cases h11:o=11
   · rw [if_pos h11] at h ⊢
     simp only [AN] at h ⊢
     exact ⟨h.1,Xw (fun s hs hl=>V5 hs hl) h.2 hs⟩
   · rw [if_neg h11] at h ⊢;exact h
theorem m5 {o:Int} {al:List Al} (sc:List Str) (h:asB o al=true) (hs:∀a∈al,a.sh 22):asB o (Fa sc al)=true:=by
 rw [M6]
 unfold asB at h ⊢
 rw [AA]
 split at h
 · rename_i h10
   rw [if_pos h10]
   simp only [AN,Aj] at h ⊢
   refine ⟨h.1,fun x hx=>?_⟩
   obtain ⟨a,ha,rfl⟩:=CN.1 hx
   exact jS sc (h.2 a ha) (hs a ha)
 · rename_i h10;rw [if_neg h10];exact h
theorem iK {o:Int} {n:Str} {u:Int} {ns:List Str} {nk:Nat} {al:List Al} (sc:List Str) (h:JZ o n u ns nk al=true) (h1:n.length≤22) (h2:XD 22 ns) (h3:∀a∈al,a.sh 22):JZ o (M8 o n sc) u (ns.map s2) nk (Fa sc al)=true:=by
 simp only [JZ,AN] at h ⊢
 obtain ⟨⟨⟨⟨a,b⟩,c⟩,d⟩,e⟩:=h
 exact ⟨⟨⟨⟨oA sc a h1,b⟩,oG c h2⟩,m5 sc d h3⟩,e⟩
theorem fE {g:Nat→Ex→Option Nat} (o:Int) (n:Str) (ns sc:List Str):∀(l:List Ex) (i q r:Nat),(∀x∈l,∀a b s,g a x=some b→g a (x.loc s)=some b)→l.foldlM g q=some r→(Ep o n ns sc i l).foldlM g q=some r
 |[],_,_,_,_,h=>h
 |x::l,i,q,r,hf,h=>by
  rw [E4,AL,AB] at h
  obtain ⟨b,hb,h⟩:=h
  rw [Ep,E4,AL,hf x (Ai ..) q b _ hb,Di]
  exact fE o n ns sc l (i+1) b r (fun y hy=>hf y (Ao _ hy)) h
theorem Ys:∀(d q:Nat) (e:Ex) (r:Nat) (sc:List Str),vEx d q e=some r→e.sh 22→vEx d q (e.loc sc)=some r
 |0,q,.mk ..,r,_,h,_=>by simp [vEx] at h
 |d+1,0,.mk ..,r,_,h,_=>by cases h
 |d+1,q+1,.mk o n u ns ks al,r,sc,h,hs=>by
  rw [Ex.sh,Ex.N3,Al.N3] at hs
  obtain ⟨s1,s2',s3,s4⟩:=hs
  rw [Ex.loc]
  simp only [vEx,M7] at h ⊢
  split at h
  · rename_i hn
    rw [AB] at h
    obtain ⟨c,hc,h⟩:=h
    rw [if_pos (iK sc hn s1 s2' s4),fE (g:=fun q e=>vEx d q e) o n ns sc ks 0 q c (fun x hx a b s hab=>Ys d a x b s hab (s3 x hx)) hc,Di,M6]
    refine SX (m:=fun a=>a.loc sc) al c r (fun x hx a b hab=>?_) h
    obtain ⟨cc,vs,bd⟩:=x
    rw [Al.loc]
    have:=s4 _ hx
    rw [Al.sh] at this
    exact Ys d a bd b _ hab this.2
  · cases h
theorem gS {f:FE} (h:X0 f=true) (hs:f.sh 22):X0 f.loc=true:=by
 simp only [X0,FE.loc,AN,AA] at h ⊢
 exact ⟨h.1,Xw (fun s hs hl=>V5 hs hl) h.2 hs.2.1⟩
theorem eB {p:Pg} (h:Cu p=true) (hs:p.sh 22):Cu p.loc=true:=by
 simp only [Cu,Pg.loc,AN,AA] at h ⊢
 obtain ⟨⟨⟨h1,h2⟩,h3⟩,h4⟩:=h
 refine ⟨⟨⟨h1,h2⟩,h3⟩,?_⟩
 obtain ⟨r,hr⟩:=Gi.1 h4
 rw [SX (g:=KY) (m:=FE.loc) p.Hp 600 r (fun f hf a b hab=>?_) hr]
 · rfl
 · unfold KY at hab ⊢
   split at hab
   · rename_i hh
     rw [if_pos (gS hh (hs.2 f hf))]
     exact Ys 40 a f.body b f.params hab (hs.2 f hf).2.2
   · cases hab
theorem aQ {p:Pg} (h:Cu p=true):∀f∈p.Hp,f.body.vn:=by
 simp only [Cu,AN] at h
 obtain ⟨r,hr⟩:=Gi.1 h.2
 refine PY p.Hp 600 r (fun f _ a b hab=>?_) hr
 unfold KY at hab
 split at hab
 · exact eA 40 a f.body b hab
 · cases hab
def Zh (fs:List FE):Prop:=∀n∈Bm fs,∀m,n≠m++qq
theorem NK (fs:List FE):Bm (fs.map FE.loc)=Bm fs:=by
 simp [Bm,FE.loc,Function.comp_def]
theorem Z6 {s:Str}:∀ {l:List Str} {i:Nat},Cd l s=some i→s∈l
 |[],i,h=>by cases h
 |x::l,i,h=>by
  rw [Cd] at h
  split at h
  · rename_i e;rw [beq_iff_eq] at e;subst e;exact Ai ..
  · cases hi:Cd l s with
    |none=>rw [hi] at h;cases h
    |some k=>exact Ao _ (Z6 hi)
theorem l9 {n:Str} {sc:List Str} (hn:n≠[]) (h:sc.contains n=true):(sc.map s2).contains (n++qq)=true:=by
 rw [← aD hn,NF Yl];exact h
theorem qV {fs:List FE} (hq:Zh fs) {n:Str} {sc:List Str} {i:Nat} (hn:n≠[]) (h:Cd (Bm fs) n=some i):(sc.map s2).contains n=false:=by
 rw [OP,decide_eq_false_iff_not]
 intro hm
 obtain ⟨m,_,rfl⟩:=CN.1 hm
 have hm0:m≠[]:=fun e=>hn (Sy.2 e)
 rw [aD hm0] at h
 exact hq _ (Z6 h) m rfl
theorem qQ:∀(e:Ex) (sc:List Str),(e.loc sc).op=e.op
 | .mk ..,sc=>by rw [Ex.loc];rfl
theorem lH:∀(e:Ex) (sc:List Str),e.op=4→(e.loc sc).name=if sc.contains e.name then e.name++qq else e.name
 | .mk o n u ns ks al,sc,h=>by
  replace h:o=4:=h
  rw [Ex.loc]
  show M8 o n sc=_
  rw [M8,if_pos h];rfl
theorem U6 (dt:List Dat) (sc:List Str):∀l:List Al,C2 dt (Fa sc l)=C2 dt l
 |[]=>by rw [Fa]
 | .mk c vs b::l=>by
  rw [Fa,Al.loc,C2,C2,U6 dt sc l,AA,N4 Yl Yk]
  skip
theorem mO {fs:List FE} (hq:Zh fs) (dt:List Dat) (e:Ex) (sc:List Str) (hg:QW e) (h:EP fs dt e sc=0):EP (fs.map FE.loc) dt (e.loc sc) (sc.map s2)=0:=by
 obtain ⟨g1,g2,_,_⟩:=hg
 obtain ⟨o,n,u,ns,ks,al⟩:=e
 replace g1:o=4→n≠[]:=g1
 replace g2:o=12→∃h t,ks=h::t∧(h.op=4→h.name≠[]):=g2
 rw [Ex.loc]
 rw [KZ] at h ⊢
 by_cases h4:o=4
 · subst h4
   have hn:=g1 rfl
   rw [if_pos rfl] at h ⊢
   have hl:M8 4 n sc=if sc.contains n then n++qq else n:=if_pos rfl
   rw [hl]
   cases hc:sc.contains n with
   |true=>rw [if_pos rfl,l9 hn hc];rfl
   |false=>
    rw [hc] at h
    have e:(if false=true then n++qq else n)=n:=rfl
    rw [e,NK]
    cases hi:Cd (Bm fs) n with
    |none=>rw [hi] at h;exact absurd h (by decide)
    |some i=>simp
 rw [if_neg h4] at h ⊢
 by_cases h6:o=6
 · subst h6
   rw [if_pos rfl] at h ⊢
   rw [M7]
   exact h
 rw [if_neg h6] at h ⊢
 by_cases h8:o=8∨o=11
 · rw [if_pos h8] at h ⊢
   rw [N4 Yl Yk];exact h
 rw [if_neg h8] at h ⊢
 by_cases h10:o=10
 · rw [if_pos h10] at h ⊢
   unfold Js at h ⊢
   rw [U6];exact h
 rw [if_neg h10] at h ⊢
 by_cases h12:o=12
 · rw [if_pos h12] at h ⊢
   subst h12
   obtain ⟨k,t,rfl,hh⟩:=g2 rfl
   have hin:S7 12 n ns sc 0=sc:=by
    unfold S7;rw [if_neg (by omega),if_neg (by omega)]
   rw [Ep,hin]
   simp only [List.head?_cons,qQ,A5,M7] at h ⊢
   by_cases ho4:k.op=4
   · rw [lH k sc ho4]
     cases hc:sc.contains k.name with
     |true=>rw [if_pos rfl,l9 (hh ho4) hc];simp
     |false=>
      have e:(if false=true then k.name++qq else k.name)=k.name:=rfl
      rw [e,NK]
      rw [hc] at h
      split
      · rename_i hcc
        rw [if_pos (by rw [ho4];rfl)] at h
        cases hi:Cd (Bm fs) k.name with
        |none=>rfl
        |some f=>
         rw [hi] at h
         simp only [Ad] at h ⊢
         cases hf:fs[f]? with
         |none=>rfl
         |some g=>
          rw [hf] at h
          simp only [Bl,FE.loc,AA] at h ⊢
          exact h
      · rfl
   · simp [ho4]
 · rw [if_neg h12]
theorem VC {vis:Ex→List Str→Int}:∀ {l:List (Ex×List Str)},(∀x∈l,vis x.1 x.2=0)→EB vis l=none
 |[],_=>rfl
 |x::l,h=>by rw [EB,if_pos (h x (Ai ..)),VC (fun y hy=>h y (Ao _ hy))];rfl
theorem XR {fs:List FE} {dt:List Dat}:∀(l:List FE) (i:Nat),(FB fs dt i l).1=0→∀k f,l[k]?=some f→Lj fs dt (i+k) f=none
 |[],i,_,k,f,hf=>by simp at hf
 |g::l,i,h,k,f,hf=>by
  rw [FB] at h
  have hF:Lj fs dt i g=none:=by
   unfold Lj at h ⊢
   split at h
   · rename_i d hd
     exfalso
     split at hd
     · cases hd;simp at h
     · split at hd
       · rename_i k c hk;cases hd;exact PX hk h
       · cases hd
   · rename_i hd;exact hd
  rw [hF] at h
  cases k with
  |zero=>simp at hf;subst hf;exact hF
  |succ k=>rw [Nat.add_succ,← Nat.succ_add];exact XR l (i+1) h k f (by simpa using hf)
theorem TQ {fs:List FE} {dt:List Dat}:∀(l:List FE) (i:Nat),(∀k f,l[k]?=some f→Lj fs dt (i+k) f=none)→FB fs dt i l=(0,0,0)
 |[],i,_=>rfl
 |g::l,i,h=>by
  have h0:=h 0 g rfl
  rw [D5] at h0
  rw [FB,h0]
  exact TQ l (i+1) (fun k f hf=>by have:=h (k+1) f (by simpa using hf);rw [Nat.add_succ,← Nat.succ_add] at this;exact this)
theorem kB {fs:List FE} (hq:Zh fs) {dt:List Dat} {i:Nat} {f:FE} (hv:f.body.vn) (hg:∀sc x,x∈B7 f.body sc→QW x.1) (h:Lj fs dt i f=none):Lj (fs.map FE.loc) dt i f.loc=none:=by
 unfold Lj at h ⊢
 rw [NK,show f.loc.name=f.name from rfl,show f.loc.params=f.params.map s2 from rfl,show f.loc.body=f.body.loc f.params from rfl,N4 Yl Yk,Rn f.body f.params hv]
 split at h
 · cases h
 · rename_i h1
   rw [if_neg h1]
   cases he:EB (EP fs dt) (B7 f.body f.params) with
   |some kc=>obtain ⟨k,c⟩:=kc;rw [he] at h;cases h
   |none=>
    rw [VC (fun x hx=>?_)]
    obtain ⟨y,hy,rfl⟩:=CN.1 hx
    exact mO hq dt y.1 y.2 (hg _ y hy) (SU he y hy)
theorem ZM {p:Pg} (hs:p.sh 22) (hq:Zh p.Hp) (h:(KJ p).1=0):KJ p.loc=(0,0,0):=by
 unfold KJ at h ⊢
 cases hd:Jz p with
 |error d=>obtain ⟨c,a,b⟩:=d;rw [hd] at h;exact absurd h (O4 hd)
 |ok dt=>
  rw [hd] at h
  simp only at h
  obtain ⟨hv,hgo⟩:=JN hd
  obtain ⟨hl,hg⟩:=Iq hv
  have hvn:=aQ hv
  have hd2:Jz p.loc= .ok dt:=by
   unfold Jz
   rw [eB hv hs,show p.loc.data=p.data from rfl,hgo]
   rfl
  rw [hd2]
  simp only
  refine TQ _ 0 (fun k f hf=>?_)
  rw [show p.loc.Hp=p.Hp.map FE.loc from rfl,Ad,AE] at hf
  obtain ⟨g,hgk,rfl⟩:=hf
  have hgm:=AS hgk
  exact kB hq (hvn g hgm) (hg g hgm).2.2 (XR _ 0 h k g hgk)
theorem cV {fs:List FE} (hq:Zh fs) (g:Nat) (x:Ex×List Str) (h:QW x.1):Ft (fs.map FE.loc) g (Zd x)=Ft fs g x:=by
 obtain ⟨⟨o,n,u,ns,ks,al⟩,sc⟩:=x
 have:=h.1
 simp only [Ex.op,Ex.name] at this
 rw [Zd]
 simp only [Ft,Ex.loc,Ex.op,Ex.name]
 by_cases h4:o=4
 · subst h4
   have hn:=this rfl
   have hl:M8 4 n sc=if sc.contains n then n++qq else n:=if_pos rfl
   rw [hl,NK]
   cases hc:sc.contains n with
   |true=>rw [if_pos rfl,l9 hn hc];rfl
   |false=>
    have e:(if false=true then n++qq else n)=n:=rfl
    rw [e]
    cases hi:Cd (Bm fs) n with
    |none=>simp
    |some i=>rw [qV hq hn hi]
 · rw [CA h4];rfl
theorem fV {fs:List FE} (hq:Zh fs) (f:FE) (hv:f.body.vn) (h:∀sc x,x∈B7 f.body sc→QW x.1):MT (fs.map FE.loc) f.loc=MT fs f:=by
 unfold MT
 rw [AA,show f.loc.params=f.params.map s2 from rfl,show f.loc.body=f.body.loc f.params from rfl,Rn f.body f.params hv]
 congr 1
 funext g
 rw [List.any_map]
 have:∀(l:List (Ex×List Str)),(∀x∈l,QW x.1)→l.any (Ft (fs.map FE.loc) g∘Zd)=l.any (Ft fs g):=by
  intro l
  induction l with
  |nil=>intro _;rfl
  |cons x l ih=>
   intro hl
   rw [IP,IP,ih (fun y hy=>hl y (Ao _ hy)),Function.comp,cV hq g x (hl x (Ai ..))]
 exact this _ (fun x hx=>h _ x hx)
theorem Uw {p:Pg} (hs:p.sh 22) (hq:Zh p.Hp) (h:(KJ p).1=0):Ez p.loc=Ez p:=by
 unfold Ez
 rw [ZM hs hq h,if_pos h,if_pos rfl,show p.loc.Hp=p.Hp.map FE.loc from rfl,List.map_map]
 have hv:Cu p=true:=by
  unfold KJ at h
  cases hd:Jz p with
  |error d=>obtain ⟨c,a,b⟩:=d;rw [hd] at h;exact absurd h (O4 hd)
  |ok dt=>exact (JN hd).1
 apply List.map_congr_left
 intro f hf
 exact fV hq f (aQ hv f hf) ((Iq hv).2 f hf).2.2
theorem X7 (o:Int) (n:Str) (ns sc:List Str):∀(l:List Ex) (i j:Nat),(Ep o n ns sc i l)[j]?=l[j]?.map (fun k=>k.loc (S7 o n ns sc (i+j)))
 |[],i,j=>by simp [Ep]
 |k::l,i,0=>by simp [Ep]
 |k::l,i,j+1=>by
  rw [Ep,Gs,Gs,X7 o n ns sc l (i+1) j,Nat.add_succ,Nat.succ_add]
  rfl
end Go.Ab
namespace Go.Ab
open Go.Proofs
theorem UT (l:List Str) (hl:Y8 l) (σ:AF):AK Tryz.prog 42 [.d (.sl (l.map Ak)),.d (.str [81,81])] σ (fun v σ'=>v= .d (.sl ((l.map s2).map Ak))∧σ'=σ):=
 Sa [81,81] (by simp) l (by have:=hl.1;omega) (fun s hs=>by have:=hl.2 s hs;omega) σ
theorem mI (s:Str) (hl:s.length≤40) (σ:AF):AK Tryz.prog 42 [.d (.sl [[.str s]]),.d (.str [81,81])] σ (fun v σ'=>v= .d (.sl [[.str (s2 s)]])∧σ'=σ):=
 UT [s] ⟨by simp,fun t ht=>by simp at ht;subst ht;exact hl⟩ σ
theorem ixz (s:Str):(if (0:Int)≤0 then ([[DV.str s]]:List (List DV))[Int.toNat 0]?.bind (fun r=>if r.length=1 then some (AV.ep r 0) else none) else none)=some (.ep [.str s] 0):=rfl
def lcL (o:Int) (n:Str) (u:Int) (ns:List Str) (ks:List Ex) (al:List Al) (n':Str) (kv av:AV):Lm:=
 BA 3 [.d (.int .i64 o),.d (.str n),.d (.int .i64 u),.d (.sl (ns.map Ak)),.d (.sl (ks.map Ex.enc)),.d (.sl (al.map Al.enc))] (BA 6 [.d (.int .i64 0),.d (.str []),.d (.int .i64 0),.AU,.AU,.AU] (BA 7 [.d (.int .i64 o),.d (.str n'),.d (.int .i64 u),.d (.sl ((ns.map s2).map Ak)),kv,av] E))
theorem mJ {l:List Str} {i:Nat} {x:Str} (h:l[i]?=some x) (s:Str):(l.take (i+1)).contains s=((l.take i).contains s||(x==s)):=by
 rw [Am h]
 simp only [OP,A6,B6,Bool.decide_or]
 congr 1
 rw [Af,decide_eq_true_eq,beq_iff_eq]
 exact eq_comm
theorem qL (Q:AV→AF→Prop) (rest:List CI) (σ:AF) (o:Int) (n:Str) (hn:n.length≤40) (u:Int) (ns:List Str) (ks:List Ex) (al:List Al) (sc:List Str) (hsc:sc.length≤100000000)
 (hfin:Run DD Q rest (put 1 (.clip (sc.map Ak)) (put 2 (.d (.str [81,81])) (put 3 (.lp 3 0) (put 6 (.lp 6 0) (put 7 (.lp 7 0) (put 36 (.clip (sc.map Ak)) (put 37 (.d (.int .i64 sc.length)) (put 38 (.d (.int .i64 sc.length)) (put 39 (.d (.bool false)) U))))))))) (lcL o n u ns ks al (if sc.contains n then n++qq else n) .AU .AU) σ):
 Run DD Q (.code (.loop Na)::.blk 1::rest) (put 1 (.clip (sc.map Ak)) (put 2 (.d (.str [81,81])) (put 3 (.lp 3 0) (put 6 (.lp 6 0) (put 7 (.lp 7 0) (put 36 (.clip (sc.map Ak)) (put 37 (.d (.int .i64 sc.length)) (put 38 (.d (.int .i64 0)) U)))))))) (lcL o n u ns ks al n .AU .AU) σ:=by
 refine Run.Ay ?_
 refine Run.BB ((fun (a1:AV) (a2:AV) (a3:AV) (a6:AV) (a7:AV) (a36:AV) (a37:AV)=>fun (y:Nat)=>put 1 a1 (put 2 a2 (put 3 a3 (put 6 a6 (put 7 a7 (put 36 a36 (put 37 a37 (put 38 (.d (.int .i64 y)) U)))))))) _ _ _ _ _ _ _) (fun y=>lcL o n u ns ks al (if (sc.take y).contains n then n++qq else n) .AU .AU) (fun _=>σ) (fun y=>y≤sc.length) (fun y=>sc.length - y) ?_ 0 (C1 _)
 intro i hi ih
 by_cases hlt:i < sc.length
 · obtain ⟨b,hb⟩:=Aw hlt
   have he:=Aq (enc:=Ak) hb
   simp only [Ak] at he
   have hw1:=A7 (show i+1≤9000000000000000000 by omega)
   have hih:=ih (i+1) (by omega) (by omega)
   have hcat:=Xm (a:=n) (b:=[81,81]) (by simp;omega)
   rw [mJ hb] at hih
   generalize (sc.take i).contains n=c at hih ⊢
   cases hbn:(b==n) with
   |false=>
    rw [hbn,Gg] at hih
    unfold lcL at hih ⊢
    (repeat' (first|refine Run.ct rfl ?_|((first|refine Run.reg mixed ?_|refine Run.AD ?_|(refine BO rfl (fun h=>?_) (fun h=>?_)<;>try (cases h;done)))<;>try simp -implicitDefEqProofs only [A8 hlt,he,hw1,hbn,go_sem])|(refine ⟨fun h=>?_,fun h=>?_⟩<;>first|(cases h;done)|try simp only [h])|fail))
    exact hih
   |true=>
    rw [hbn,MA,if_pos rfl] at hih
    unfold lcL at hih ⊢
    (repeat' (first|refine Run.ct rfl ?_|((first|refine Run.reg mixed ?_|refine Run.AD ?_|(refine BO rfl (fun h=>?_) (fun h=>?_)<;>try (cases h;done)))<;>try simp -implicitDefEqProofs only [A8 hlt,he,hw1,hbn,hcat,go_sem])|(refine ⟨fun h=>?_,fun h=>?_⟩<;>first|(cases h;done)|try simp only [h])|fail))
    exact hih
 · have hie:i=sc.length:=by omega
   subst hie
   rw [AG (A0 _)]
   unfold lcL at hfin ⊢
   (repeat' (first|refine Run.ct rfl ?_|((first|refine Run.reg mixed ?_|refine Run.AD ?_|(refine BO rfl (fun h=>?_) (fun h=>?_)<;>try (cases h;done)))<;>try simp -implicitDefEqProofs only [B8 hlt,go_sem])|(refine ⟨fun h=>?_,fun h=>?_⟩<;>first|(cases h;done)|try simp only [h])|fail))
   exact hfin
end Go.Ab
namespace Go.Ab
open Go.Proofs
def Yy (x:Ex) (m:Nat):Prop:=∀(inn:List Str) (σ:AF),inn.length≤m→AK Tryz.prog 43 [exA x,.d (.sl (inn.map Ak)),.d (.str [81,81])] σ (fun v σ'=>v=exA (x.loc inn)∧σ'=σ)
def Y0 (o:Int) (n':Str) (u:Int) (ns:List Str) (kv av:AV):Lm:=
 BA 6 [.d (.int .i64 0),.d (.str []),.d (.int .i64 0),.AU,.AU,.AU] (BA 7 [.d (.int .i64 o),.d (.str n'),.d (.int .i64 u),.d (.sl ((ns.map s2).map Ak)),kv,av] E)
theorem cS {o:Int} {n:Str} {ns sc:List Str} {l:List Ex} {i:Nat} {x:Ex} (h:l[i]?=some x):(Ep o n ns sc 0 l).take (i+1)=(Ep o n ns sc 0 l).take i++[x.loc (S7 o n ns sc i)]:=by
 refine Am ?_
 rw [X7,h,An];rfl
theorem Y2 (Q:AV→AF→Prop) (rest:List CI) (σ:AF) (o:Int) (n:Str) (u:Int) (ns:List Str) (hns:ns.length≤1000) (ks:List Ex) (hkl:ks.length≤100000) (al:List Al) (n':Str) (sc:List Str) (m:Nat) (hsc:sc.length≤100000000) (hm1:sc.length+ns.length+1≤m) (hk:∀x∈ks,Yy x m)
 (hfin:∀v τ,Cl σ 42 6 ((Ep o n ns sc 0 ks).map Ex.enc) v τ→Run DD Q rest (put 1 (.clip (sc.map Ak)) (put 2 (.d (.str [81,81])) (put 3 (.lp 3 0) (put 6 (.lp 6 0) (put 7 (.lp 7 0) (put 64 (.d (.sl (ks.map Ex.enc))) (put 65 (.d (.int .i64 ks.length)) (put 66 (.d (.int .i64 ks.length)) (put 67 (.d (.bool false)) U))))))))) (lcL o n u ns ks al n' v .AU) τ):
 Run DD Q (.code (.loop Nb)::.blk 3::rest) (put 1 (.clip (sc.map Ak)) (put 2 (.d (.str [81,81])) (put 3 (.lp 3 0) (put 6 (.lp 6 0) (put 7 (.lp 7 0) (put 64 (.d (.sl (ks.map Ex.enc))) (put 65 (.d (.int .i64 ks.length)) (put 66 (.d (.int .i64 0)) U)))))))) (lcL o n u ns ks al n' .AU .AU) σ:=by
 refine Run.Ay ?_
 refine Run.BB ((fun (a1:AV) (a2:AV) (a3:AV) (a6:AV) (a7:AV) (a64:AV) (a65:AV)=>fun (y:Nat×AV×AF)=>put 1 a1 (put 2 a2 (put 3 a3 (put 6 a6 (put 7 a7 (put 64 a64 (put 65 a65 (put 66 (.d (.int .i64 y.1)) U)))))))) _ _ _ _ _ _ _) (fun y=>lcL o n u ns ks al n' y.2.1 .AU) (fun y=>y.2.2) (fun y=>y.1≤ks.length∧Cl σ 42 6 (((Ep o n ns sc 0 ks).take y.1).map Ex.enc) y.2.1 y.2.2) (fun y=>ks.length - y.1) ?_ (0,.AU,σ) ⟨by simp,Cl.nil _ _ _⟩
 rintro ⟨i,v,τ⟩ ⟨hi,ho⟩ ih
 simp only at hi ho
 by_cases hlt:i < ks.length
 · obtain ⟨x,hx⟩:=Aw hlt
   have he:=Aq (enc:=Ex.enc) hx
   have hw1:=A7 (show i+1≤9000000000000000000 by omega)
   have hxk:=hk x (AS hx)
   have hcA:AK Tryz.prog 43 [exA x,.clip (sc.map Ak),.d (.str [81,81])] τ (fun v σ'=>v=exA (x.loc sc)∧σ'=τ):=by
    refine AK.plain ?_
    obtain ⟨xo,xn,xu,xns,xks,xal⟩:=x
    have:=hxk sc τ (by omega)
    simp only [exA,Ex.A3,AH,AM,AV.DA,H8,GG,Va] at this ⊢
    exact this
   have hcB:=hxk (sc++[n]) τ (by simp;omega)
   have hcC:=hxk (sc++ns) τ (by simp;omega)
   have hnx:((Ep o n ns sc 0 ks).take (i+1)).map Ex.enc=((Ep o n ns sc 0 ks).take i).map Ex.enc++[(x.loc (S7 o n ns sc i)).enc]:=by
    rw [cS hx];simp
   have hkl2:(((Ep o n ns sc 0 ks).take i).map Ex.enc).length≤100000:=by
    rw [AA,Ae];omega
   have hih:=fun v2 σ2 h=>ih (i+1,v2,σ2) ⟨by simp only;omega,h⟩ (by simp only;omega)
   simp only [hnx] at hih
   clear ih hnx hxk
   generalize hea:x.loc sc=ea at hcA
   generalize heb:x.loc (sc++[n])=eb at hcB
   generalize hec:x.loc (sc++ns)=ec at hcC
   obtain ⟨xo,xn,xu,xns,xks,xal⟩:=x
   have hb:∀inn e',(Ex.mk xo xn xu xns xks xal).loc inn=e'→S7 o n ns sc i=inn→∀v2 σ2,Cl σ 42 6 ((((Ep o n ns sc 0 ks).take i).map Ex.enc)++[e'.enc]) v2 σ2→_:=fun inn e' h1 h2 v2 σ2 h=>hih v2 σ2 (by rw [h2,h1];exact h)
   clear hih
   obtain ⟨ao,an,au,ans,aks,aal⟩:=ea
   obtain ⟨bo,bn,bu,bns,bks,bal⟩:=eb
   obtain ⟨co,cn,cu,cns,cks,cal⟩:=ec
   have hbA:=hb sc _ hea
   have hbB:=hb _ _ heb
   have hbC:=hb _ _ hec
   clear hb hea heb hec
   unfold lcL at *
   simp only [exA,Ex.A3,AH,AM,CR,Ak] at he hcA hcB hcC hbA hbB hbC
   have r1:∀r∈sc.map Ak,r.length=1:=by simp [Ak]
   have hsel:o=7∨o=17∨o=8∨o=11∨(o≠7∧o≠17∧o≠8∧o≠11):=by omega
   have hi1:(i=1∧((i:Int)==1)=true)∨(i≠1∧((i:Int)==1)=false):=by
    by_cases h:i=1
    · left;subst h;exact ⟨rfl,rfl⟩
    · right;exact ⟨h,CA (by omega)⟩
   unfold S7 at hbA hbB hbC
   rcases hsel with hs|hs|hs|hs|⟨h7,h17,h8,h11⟩
   case inr.inr.inr.inr=>
    have hbb:=hbA ((if_neg (by omega)).trans (if_neg (by omega)))
    clear hbA hbB hbC
    rcases hi1 with ⟨_,hi1⟩|⟨_,hi1⟩
    all_goals
     (repeat' (first|refine Run.ct rfl ?_|((first|refine Run.reg mixed ?_|refine Run.AD ?_|(refine Dh.own ho rfl (by simp) (by simp;omega) (by decide) (fun v2 σ2 ho2 hbk=>?_))|refine AI.det (hcA) ?_|(refine BO rfl (fun h=>?_) (fun h=>?_)<;>try (cases h;done)))<;>try simp -implicitDefEqProofs only [A8 hlt,he,hw1,hi1,CA h7,CA h17,CA h8,CA h11,ho.cell,ho.cells,ho.BF,ho.BG,go_sem])|(refine ⟨fun h=>?_,fun h=>?_⟩<;>first|(cases h;done)|try simp only [h])|fail))
     simp -implicitDefEqProofs only [ho2.cells,ho2.cell,go_sem]
     (repeat' (first|refine Run.ct rfl ?_|((first|refine Run.reg mixed ?_|refine Run.AD ?_|(refine BO rfl (fun h=>?_) (fun h=>?_)<;>try (cases h;done)))<;>try simp -implicitDefEqProofs only [hw1,ho2.cell,ho2.cells,go_sem])|(refine ⟨fun h=>?_,fun h=>?_⟩<;>first|(cases h;done)|try simp only [h])|fail))
     exact hbb _ _ ho2
   all_goals
    subst hs
    rcases hi1 with ⟨hie,hi1⟩|⟨hie,hi1⟩
    all_goals
     first
     |have hbb:=hbB (if_pos (by omega))
     |have hbb:=hbC ((if_neg (by omega)).trans (if_pos (by omega)))
     |have hbb:=hbA ((if_neg (by omega)).trans (if_neg (by omega)))
     clear hbA hbB hbC
     (repeat' (first|refine Run.ct rfl ?_|((first|refine Run.reg mixed ?_|refine Run.AD ?_|(refine Dh.own ho rfl (by simp) (by simp;omega) (by decide) (fun v2 σ2 ho2 hbk=>?_))|(refine Dh.clip rfl r1 (by simp [Ak]) (by simp;omega) (by decide) ?_)|refine AI.det (hcA) ?_|refine AI.det (hcB) ?_|refine AI.det (hcC) ?_|(refine BO rfl (fun h=>?_) (fun h=>?_)<;>try (cases h;done)))<;>try simp -implicitDefEqProofs only [A8 hlt,he,hw1,hi1,AW,ho.cell,ho.cells,ho.BF,ho.BG,go_sem])|(refine ⟨fun h=>?_,fun h=>?_⟩<;>first|(cases h;done)|try simp only [h])|fail))
     simp -implicitDefEqProofs only [ho2.cells,ho2.cell,go_sem]
     (repeat' (first|refine Run.ct rfl ?_|((first|refine Run.reg mixed ?_|refine Run.AD ?_|(refine BO rfl (fun h=>?_) (fun h=>?_)<;>try (cases h;done)))<;>try simp -implicitDefEqProofs only [hw1,ho2.cell,ho2.cells,go_sem])|(refine ⟨fun h=>?_,fun h=>?_⟩<;>first|(cases h;done)|try simp only [h])|fail))
     exact hbb _ _ ho2
 · have hie:i=ks.length:=by omega
   subst hie
   rw [AG (by rw [M7];omega)] at ho
   have:=hfin v τ ho
   unfold lcL at this ⊢
   (repeat' (first|refine Run.ct rfl ?_|((first|refine Run.reg mixed ?_|refine Run.AD ?_|(refine BO rfl (fun h=>?_) (fun h=>?_)<;>try (cases h;done)))<;>try simp -implicitDefEqProofs only [B8 hlt,ho.cell,ho.cells,ho.BF,ho.BG,go_sem])|(refine ⟨fun h=>?_,fun h=>?_⟩<;>first|(cases h;done)|try simp only [h])|fail))
   exact this
theorem Y3 (Q:AV→AF→Prop) (rest:List CI) (σ:AF) (o:Int) (u:Int) (ns:List Str) (al:List Al) (hal:al.length≤100000) (n':Str) (kv:AV) (hkc:kv.cells=[kv]) (hki:kv.BV=true) (sc:List Str) (m:Nat) (hsc:sc.length≤100000000) (hm1:sc.length+10≤m) (hvs:∀c vs b,Al.mk c vs b∈al→Y8 vs) (hk:∀c vs b,Al.mk c vs b∈al→Yy b m)
 (hfin:∀v τ,Cl σ 129 8 ((Fa sc al).map Al.enc) v τ→Run DD Q rest (put 1 (.clip (sc.map Ak)) (put 2 (.d (.str [81,81])) (put 6 (.lp 6 0) (put 7 (.lp 7 0) (put 118 (.d (.sl (al.map Al.enc))) (put 119 (.d (.int .i64 al.length)) (put 120 (.d (.int .i64 al.length)) (put 121 (.d (.bool false)) U)))))))) (Y0 o n' u ns kv v) τ):
 Run DD Q (.code (.loop Nc)::.blk 6::rest) (put 1 (.clip (sc.map Ak)) (put 2 (.d (.str [81,81])) (put 6 (.lp 6 0) (put 7 (.lp 7 0) (put 118 (.d (.sl (al.map Al.enc))) (put 119 (.d (.int .i64 al.length)) (put 120 (.d (.int .i64 0)) U))))))) (Y0 o n' u ns kv .AU) σ:=by
 refine Run.Ay ?_
 refine Run.BB ((fun (a1:AV) (a2:AV) (a6:AV) (a7:AV) (a118:AV) (a119:AV)=>fun (y:Nat×AV×AF)=>put 1 a1 (put 2 a2 (put 6 a6 (put 7 a7 (put 118 a118 (put 119 a119 (put 120 (.d (.int .i64 y.1)) U))))))) _ _ _ _ _ _) (fun y=>Y0 o n' u ns kv y.2.1) (fun y=>y.2.2) (fun y=>y.1≤al.length∧Cl σ 129 8 (((Fa sc al).take y.1).map Al.enc) y.2.1 y.2.2) (fun y=>al.length - y.1) ?_ (0,.AU,σ) ⟨by simp,Cl.nil _ _ _⟩
 rintro ⟨i,v,τ⟩ ⟨hi,ho⟩ ih
 simp only at hi ho
 have hall:(Fa sc al).length=al.length:=by rw [M6,AA]
 by_cases hlt:i < al.length
 · obtain ⟨x,hx⟩:=Aw hlt
   have he:=Aq (enc:=Al.enc) hx
   have hw1:=A7 (show i+1≤9000000000000000000 by omega)
   have hxm:=AS hx
   have hx':(Fa sc al)[i]?=some (x.loc sc):=by rw [M6,Ad,hx];rfl
   have hnx:((Fa sc al).take (i+1)).map Al.enc=((Fa sc al).take i).map Al.enc++[(x.loc sc).enc]:=by
    rw [Am hx'];simp
   have hkl2:(((Fa sc al).take i).map Al.enc).length≤100000:=by
    rw [AA,Ae];omega
   obtain ⟨c,vs,b⟩:=x
   have hv1:=hvs c vs b hxm
   have hcC:=hk c vs b hxm (sc++vs) τ (by have:=hv1.1;simp;omega)
   have hsv:=UT vs hv1 τ
   have hih:=fun v2 σ2 h=>ih (i+1,v2,σ2) ⟨by simp only;omega,h⟩ (by simp only;omega)
   simp only [hnx,Al.loc] at hih
   clear ih hnx
   generalize b.loc (sc++vs)=ec at hcC hih
   obtain ⟨bo,bn,bu,bns,bks,bal⟩:=b
   obtain ⟨co,cn,cu,cns,cks,cal⟩:=ec
   unfold Y0 at *
   simp only [exA,Al.A3,Ex.A3,AH,AM,CR] at he hcC hih
   have r1:∀r∈sc.map Ak,r.length=1:=by simp [Ak]
   have hvl:=hv1.1
   (repeat' (first|refine Run.ct rfl ?_|((first|refine Run.reg mixed ?_|refine Run.AD ?_|(refine Dh.own ho rfl (by simp) (by simp;omega) (by decide) (fun v2 σ2 ho2 hbk=>?_))|(refine Dh.clip rfl r1 (by simp [Ak]) (by simp;omega) (by decide) ?_)|refine AI.det (hcC) ?_|refine AI.det (hsv) ?_|(refine BO rfl (fun h=>?_) (fun h=>?_)<;>try (cases h;done)))<;>try simp -implicitDefEqProofs only [A8 hlt,he,hw1,hkc,hki,ho.cell,ho.cells,ho.BF,ho.BG,go_sem])|(refine ⟨fun h=>?_,fun h=>?_⟩<;>first|(cases h;done)|try simp only [h])|fail))
   simp -implicitDefEqProofs only [ho2.cells,ho2.cell,go_sem]
   (repeat' (first|refine Run.ct rfl ?_|((first|refine Run.reg mixed ?_|refine Run.AD ?_|(refine BO rfl (fun h=>?_) (fun h=>?_)<;>try (cases h;done)))<;>try simp -implicitDefEqProofs only [hw1,hkc,hki,ho2.cell,ho2.cells,go_sem])|(refine ⟨fun h=>?_,fun h=>?_⟩<;>first|(cases h;done)|try simp only [h])|fail))
   exact hih _ _ ho2
 · have hie:i=al.length:=by omega
   subst hie
   rw [AG (by omega)] at ho
   have:=hfin v τ ho
   unfold Y0 at this ⊢
   (repeat' (first|refine Run.ct rfl ?_|((first|refine Run.reg mixed ?_|refine Run.AD ?_|(refine BO rfl (fun h=>?_) (fun h=>?_)<;>try (cases h;done)))<;>try simp -implicitDefEqProofs only [B8 hlt,hkc,hki,ho.cell,ho.cells,ho.BF,ho.BG,go_sem])|(refine ⟨fun h=>?_,fun h=>?_⟩<;>first|(cases h;done)|try simp only [h])|fail))
   exact this
end Go.Ab
