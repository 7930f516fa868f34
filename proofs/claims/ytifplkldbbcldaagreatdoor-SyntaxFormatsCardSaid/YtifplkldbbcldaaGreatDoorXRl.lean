/- Lengths of texts. Valid expressions. Conditions: none. -/
import Derived.Lib.ItoaLen
import Derived.Test.YtifplkldbbcldaaGreatDoorXRf
set_option linter.unusedSimpArgs false
set_option linter.unusedVariables false
set_option maxRecDepth 4000
set_option maxHeartbeats 8000000
open Bool renaming or_eq_true→BX,and_eq_true→AM,false_eq_true→AU
open List renaming map_cons→AG,flatten_cons→Cn,length_append→AA,length_cons→AB,length_nil→AD,mem_cons_self→Ag,mem_cons_of_mem→An,all_eq_true→A4,mem_map→Iw,length_eq_zero_iff→OE,take_append_drop→Et,map_nil→AH,length_map→AE,take_of_length_le→A6,replicate→Ak
open Nat renaming succ_mul→Iy,mul_le_mul_right→Ah,le_refl→A8
open Option renaming bind_eq_bind→AT,bind_eq_some_iff→AF,isSome_iff_exists→XN,bind_some→B2
open Int renaming reduceLE→BB,reduceToNat→Ap
namespace Go.Ab
theorem Fl {s:Str} (h:DQ s=true):s.length≤24:=by
 obtain ⟨b,r,rfl,_,_,h3,h4⟩:=ZE h
 first|exact h3|exact h4|omega
theorem J7 {s:Str} (h:upperB s=true):s.length≤24:=by
 obtain ⟨b,r,rfl,_,_,h4⟩:=Wg h
 exact h4
theorem Sd {s:Str} (h:G3 s=true):(shown s).length≤24:=by
 rw [shown]
 split
 · simp
 · rename_i hs
   simp only [G3,BX,beq_iff_eq] at h
   exact Fl (h.resolve_left hs)
def JL (l:List Str):Nat:=EH (fun x=>x.length+3) l
theorem Cz (x:Str) (l:List Str):JL (x::l)=x.length+3+JL l:=by simp [JL,EH]
theorem nX (sep:Str) (hs:sep.length≤3):∀l:List Str,(Lib.joinTail sep l).length≤JL l
 |[]=>by simp [Lib.joinTail,JL,EH]
 |x::l=>by
  have:=nX sep hs l
  rw [Cz]
  simp only [Lib.joinTail,AG,Cn,AA] at this ⊢
  omega
theorem E2 {sep:Str} (hs:sep.length≤3) (l:List Str):(Lib.join l sep).length≤JL l:=by
 cases l with
 |nil=>simp [Lib.join_nil]
 |cons x l=>
  rw [Lib.join_cons,Cz,AA]
  have:=nX sep hs l
  omega
theorem PQ (l:List Str):(Dc l).length≤2+JL l:=by
 rw [Dc]
 split
 · simp
 · have:=E2 (sep:=[44,32]) (by decide) l
   simp only [GB,cms,AB,AA,AD];omega
theorem Se (l:List Str):(FU l).length≤2+JL l:=by
 have:=E2 (sep:=[44,32]) (by decide) l
 simp only [FU,GB,cms,AB,AA,AD];omega
theorem Uz {l:List Str} {N:Nat} (h:∀x∈l,x.length≤N):JL l≤l.length * (N+3):=by
 induction l with
 |nil=>simp [JL,EH]
 |cons x l ih=>
  rw [Cz,AB,Iy]
  have h1:=h x (Ag ..)
  have h2:=ih (fun y hy=>h y (An _ hy))
  omega
theorem sF {α:Type} (f:α→Str) (μ:α→Nat) (l:List α) (h:∀x∈l,(f x).length+3≤μ x):JL (l.map f)≤EH μ l:=by
 induction l with
 |nil=>simp [JL,EH]
 |cons x l ih=>
  rw [AG,Cz]
  have h1:=h x (Ag ..)
  have h2:=ih (fun y hy=>h y (An _ hy))
  simp only [EH,AG,List.sum_cons] at h2 ⊢
  omega
theorem jP {α:Type} (c:Nat) (μ:α→Nat) (l:List α):EH (fun x=>c * μ x) l=c * EH μ l:=by
 induction l with
 |nil=>simp [EH]
 |cons x l ih=>simp only [EH,AG,List.sum_cons,Nat.mul_add] at ih ⊢;omega
theorem cH:∀l:List Str,JL l.dropLast+(l.getLastD []).length≤JL l
 |[]=>by simp [JL,EH]
 |[x]=>by simp [JL,EH]
 |x::y::l=>by
  have:=cH (y::l)
  rw [List.dropLast_cons_cons,Cz,Cz]
  have e:(x::y::l).getLastD []=(y::l).getLastD []:=by simp
  rw [e];omega
theorem Zd {k:Int} {n:Str} {q:Nat} (h:Bk k n q=true):n.length≤24:=by
 unfold Bk at h
 repeat' (split at h)
 all_goals simp only [AM,beq_iff_eq,AU] at h
 all_goals first|exact Fl h.1|exact J7 h.1|(have:=h.1;subst this;simp)|(have:=h.1.1;subst this;simp)
theorem hX {k:Int} {n:Str} (hn:n.length≤24) (ts:List Str):(tyN k n ts).length≤40+JL ts:=by
 have h1:=PQ ts
 have h2:=Se ts.dropLast
 have h3:=cH ts
 unfold tyN
 repeat' split
 all_goals simp only [AA,AB,AD]
 all_goals omega
theorem Sf:∀(d:Nat) (t:TE),Bf d t=true→(Au t).length+3≤60 * t.size
 |0,t,h=>by simp [Bf] at h
 |d+1,.mk k n l,h=>by
  rw [Bf,AM,A4] at h
  rw [Au,NJ,TE.size,Mq]
  have h1:=hX (k:=k) (Zd h.1) (l.map Au)
  have h2:=sF Au (fun t=>60 * t.size) l (fun x hx=>Sf d x (h.2 x hx))
  rw [jP] at h2
  omega
theorem oH {o:Int} {n:Str} (h:nmB o n=true):n.length≤24∧(shown n).length≤24:=by
 unfold nmB at h
 have hs:n.length≤24→(shown n).length≤24:=fun h=>by rw [shown];split<;>simp_all
 repeat' (split at h)
 · exact ⟨Fl h,hs (Fl h)⟩
 · exact ⟨J7 h,hs (J7 h)⟩
 · refine ⟨?_,Sd h⟩
   simp only [G3,BX,beq_iff_eq] at h
   rcases h with rfl|h
   · simp
   · exact Fl h
 · simp only [beq_iff_eq] at h;subst h;exact ⟨by simp,by decide⟩
theorem oJ {o:Int} {ns:List Str} (h:nsB o ns=true):JL (ns.map shown)≤162∧JL ns≤162:=by
 have key:∀m:List Str,m.length≤6→(∀x∈m,x.length≤24)→JL m≤162:=fun m h1 h2=>by
  have:=Uz h2
  have:m.length * 27≤6 * 27:=Ah _ h1
  omega
 have hb:∀s:Str,G3 s=true→s.length≤24:=fun s h=>by
  simp only [G3,BX,beq_iff_eq] at h
  rcases h with rfl|h
  · simp
  · exact Fl h
 have hnb:∀s:Str,DQ s=true→G3 s=true:=fun s h=>by simp [G3,h]
 unfold nsB at h
 split at h
 · simp only [AM,decide_eq_true_eq,A4] at h
   refine ⟨key _ (by simpa using h.1.2) (fun x hx=>?_),key _ h.1.2 (fun x hx=>hb x (h.2 x hx))⟩
   obtain ⟨y,hy,rfl⟩:=Iw.1 hx
   exact Sd (h.2 y hy)
 · split at h
   · simp only [AM,decide_eq_true_eq,A4] at h
     refine ⟨key _ (by simpa using h.1) (fun x hx=>?_),key _ h.1 (fun x hx=>Fl (h.2 x hx))⟩
     obtain ⟨y,hy,rfl⟩:=Iw.1 hx
     exact Sd (hnb y (h.2 y hy))
   · rw [decide_eq_true_eq,OE] at h
     subst h;simp [JL,EH]
theorem uB {c:Str} {vs:List Str} {b:Ex} (h:M4 (.mk c vs b)=true):(E5 (.mk c vs b)).length≤200+(Af b).length:=by
 simp only [M4,AM,decide_eq_true_eq,A4] at h
 rw [E5,alT]
 have h1:=J7 h.1.1
 have h2:=PQ (vs.map shown)
 have h3:JL (vs.map shown)≤(vs.map shown).length * 27:=Uz (fun x hx=>by obtain ⟨y,hy,rfl⟩:=Iw.1 hx;exact Sd (h.2 y hy))
 have h4:(vs.map shown).length * 27≤6 * 27:=Ah _ (by simpa using h.1.2)
 simp only [AA,AB,AD]
 omega
theorem xW (l:List Str):(at0 l 0).length+JL l.tail≤JL l:=by
 cases l with
 |nil=>simp [at0,JL,EH]
 |cons x l=>
  rw [Cz]
  show x.length+JL l≤_
  omega
theorem hG (l:List Str):(at0 l 0).length+(at0 l 1).length+(at0 l 2).length≤JL l:=by
 match l with
 |[]=>simp [at0,JL,EH]
 |[x]=>simp [at0,JL,EH]
 |[x,y]=>
  rw [Cz,Cz]
  show x.length+y.length+0≤_
  omega
 |x::y::z::l=>
  rw [Cz,Cz,Cz]
  show x.length+y.length+z.length≤_
  omega
theorem TT (d:Nat) (k:Ex) (t:Str):(pl d k t).length≤2+t.length:=by
 rw [pl];split
 · simp only [GB,AB,AA,AD];omega
 · omega
theorem hU (t:Str):(GB t).length≤2+t.length:=by simp only [GB,AB,AA,AD];omega
theorem uC (ks:List Ex) (ts:List Str):(AA7 ks ts).length≤8+JL ts:=by
 unfold AA7
 have h1:=Se ts.tail
 have h2:=xW ts
 split
 · omega
 · have h3:=hU (at0 ts 0)
   rename_i k _
   have h4:=TT 4 k (at0 ts 0)
   rw [AA]
   split<;>omega
theorem hO (u:Int):(opT u).length≤10:=by
 unfold opT Vh
 split<;>decide
theorem uD (u:Int) (ks:List Ex) (ts:List Str):(sW u ks ts).length≤20+JL ts:=by
 unfold sW
 have h2:=hG ts
 have h3:=hO u
 split
 · rename_i a b
   have h4:=TT (if Ch u=1 then 2 else Ch u) a (at0 ts 0)
   have h5:=TT (if Ch u=1 then 2 else Ch u+1) b (at0 ts 1)
   simp only [AA,AB]
   omega
 · simp
theorem nY (u:Int):(prT u).length≤10:=by
 unfold prT
 repeat' split
 all_goals decide
theorem nW {o u:Int} (h:nuB o u=true):(Lib.itoa u).length≤21:=by
 refine Lib.itoa_length_le u ?_ ?_
 all_goals
  unfold nuB at h
  repeat' (split at h)
  all_goals simp only [AM,decide_eq_true_eq,beq_iff_eq] at h
  all_goals omega
theorem xX {o:Int} {n:Str} {u:Int} {ns:List Str} (hn:nmB o n=true) (hu:nuB o u=true) (hs:nsB o ns=true) (ks:List Ex) (ts as':List Str):(G9 o n u ns ks ts as').length≤250+JL ts+JL as':=by
 obtain ⟨h1,h2⟩:=oH hn
 obtain ⟨h3,h4⟩:=oJ hs
 have h5:=PQ ts
 have h6:=Se ts
 have h7:=hG ts
 have h8:=uC ks ts
 have h9:=uD u ks ts
 have h10:=nY u
 have h11:=nW hu
 have h12:=hU (Lib.itoa u)
 have h13:=PQ (ns.map shown)
 have h14:=Se ns
 have h15:=E2 (sep:=[32,124,32]) (by decide) as'
 unfold G9
 by_cases h:o=7
 · rw [if_pos h];try simp only [AA,AB,AD]
   omega
 rw [if_neg h];clear h
 by_cases h:o=8
 · rw [if_pos h];try simp only [AA,AB,AD]
   omega
 rw [if_neg h];clear h
 by_cases h:o=9
 · rw [if_pos h];try simp only [AA,AB,AD]
   omega
 rw [if_neg h];clear h
 by_cases h:o=10
 · rw [if_pos h];try simp only [AA,AB,AD]
   omega
 rw [if_neg h];clear h
 by_cases h:o=11
 · rw [if_pos h];try simp only [AA,AB,AD]
   omega
 rw [if_neg h];clear h
 by_cases h:o=17
 · rw [if_pos h];try simp only [AA,AB,AD]
   omega
 rw [if_neg h];clear h
 by_cases h:o=13
 · rw [if_pos h];try simp only [AA,AB,AD]
   omega
 rw [if_neg h];clear h
 by_cases h:o=12
 · rw [if_pos h];try simp only [AA,AB,AD]
   omega
 rw [if_neg h];clear h
 by_cases h:o=1
 · rw [if_pos h];try simp only [AA,AB,AD]
   omega
 rw [if_neg h];clear h
 by_cases h:o=2
 · rw [if_pos h];split<;>(simp only [AB,AD];omega)
 rw [if_neg h];clear h
 by_cases h:o=3
 · rw [if_pos h];try simp only [AA,AB,AD]
   omega
 rw [if_neg h];clear h
 by_cases h:o=5
 · rw [if_pos h];try simp only [AA,AB,AD]
   omega
 rw [if_neg h];clear h
 by_cases h:o=14
 · rw [if_pos h];try simp only [AA,AB,AD]
   omega
 rw [if_neg h];clear h
 by_cases h:o=16
 · rw [if_pos h];try simp only [AA,AB,AD]
   omega
 rw [if_neg h];clear h
 by_cases h:o=15
 · rw [if_pos h];try simp only [AA,AB,AD]
   omega
 rw [if_neg h];clear h
 rw [AA];omega
mutual
theorem V9:∀(e:Ex),e.nb→(Af e).length+250≤800 * e.size
 | .mk o n u ns ks al,h=>by
  rw [Ex.nb] at h
  have hn:=h.1
  simp only [GJ,AM] at hn
  obtain ⟨⟨⟨⟨hnm,hnu⟩,hns⟩,has⟩,hnk⟩:=hn
  rw [Af,Ex.size]
  have h1:=xX hnm hnu hns ks (Wu ks) (KF al)
  have h2:=Yy ks h.2.1
  have h3:=Yx al h.2.2 (YH has)
  omega
theorem Yy:∀(l:List Ex),Ex.nbs l→JL (Wu l)≤800 * Ex.BA l
 |[],_=>by simp [Wu,JL,EH]
 |e::l,h=>by
  rw [Ex.nbs] at h
  have h1:=V9 e h.1
  have h2:=Yy l h.2
  rw [Wu,Cz,Ex.BA]
  omega
theorem Yx:∀(l:List Al),Al.nbs l→(∀a∈l,M4 a=true)→JL (KF l)≤800 * Al.BA l
 |[],_,_=>by simp [KF,JL,EH]
 | .mk c vs b::l,h,ha=>by
  rw [Al.nbs,Al.nb] at h
  have h1:=V9 b h.1
  have h2:=Yx l h.2 (fun a hx=>ha a (An _ hx))
  have h3:=uB (ha _ (Ag ..))
  rw [KF,Cz,Al.BA,Al.size]
  omega
end
theorem TS {α:Type} {f:Nat→α→Option Nat} {μ:α→Nat}:∀(l:List α) (q r:Nat),(∀x∈l,∀a b,f a x=some b→μ x+b≤a)→l.foldlM f q=some r→EH μ l+r≤q
 |[],q,r,_,h=>by
  simp only [List.foldlM_nil] at h
  cases h
  simp [EH]
 |y::l,q,r,hf,h=>by
  rw [List.foldlM_cons,AT,AF] at h
  obtain ⟨b,hb,h⟩:=h
  have h1:=hf y (Ag ..) q b hb
  have h2:=TS l b r (fun x hx=>hf x (An _ hx)) h
  simp only [EH,AG,List.sum_cons] at h2 ⊢
  omega
theorem cG:∀l:List Ex,Ex.BA l=EH Ex.size l
 |[]=>rfl
 |e::l=>by rw [Ex.BA,cG l];simp [EH]
theorem cE:∀l:List Al,Al.BA l=EH Al.size l
 |[]=>rfl
 |e::l=>by rw [Al.BA,cE l];simp [EH]
theorem mX:∀(d q:Nat) (e:Ex) (r:Nat),vEx d q e=some r→e.size+r≤q
 |0,q,.mk ..,r,h=>by simp [vEx] at h
 |d+1,0,.mk ..,r,h=>by cases h
 |d+1,q+1,.mk o n u ns ks al,r,h=>by
  simp only [vEx] at h
  split at h
  · rw [AF] at h
    obtain ⟨c,hc,h⟩:=h
    have h1:=TS (μ:=Ex.size) ks q c (fun x _ a b hab=>mX d a x b hab) hc
    have h2:=TS (μ:=Al.size) al c r (fun x _ a b hab=>by
     obtain ⟨cc,vs,bd⟩:=x
     rw [Al.size]
     exact mX d a bd b hab) h
    rw [Ex.size,cG,cE]
    omega
  · cases h
theorem fO {q r:Nat} {f:FE} (h:Pn q f=some r):MW f=true∧f.body.nb∧f.body.size+r≤q:=by
 unfold Pn at h
 split at h
 · rename_i hh;exact ⟨hh,fN _ _ _ _ h,mX _ _ _ _ h⟩
 · cases h
theorem TJ {p:Pg} (h:Cq p=true):(p.data.length≤12∧∀d∈p.data,G8 d=true)∧p.SI.length≤24∧∀f∈p.SI,MW f=true∧f.body.nb∧f.body.size≤600:=by
 simp only [Cq,AM,decide_eq_true_eq,A4] at h
 obtain ⟨⟨⟨h1,h2⟩,h3⟩,h4⟩:=h
 obtain ⟨r,hr⟩:=XN.1 h4
 have hs:=TS (μ:=fun f=>f.body.size) p.SI 600 r (fun x _ a b hab=>(fO hab).2.2) hr
 have ha:=Oz (Q:=fun f=>MW f=true∧f.body.nb) p.SI 600 r (fun x _ a b hab=>⟨(fO hab).1,(fO hab).2.1⟩) hr
 refine ⟨⟨h1,h3⟩,h2,fun f hf=>⟨(ha f hf).1,(ha f hf).2,?_⟩⟩
 have:=Vs (μ:=fun f:FE=>f.body.size) hf
 omega
theorem WS {α:Type} (f:α→Str) (N:Nat):∀l:List α,(∀x∈l,(f x).length≤N)→(l.map f).flatten.length≤l.length * N
 |[],_=>by simp
 |x::l,h=>by
  have h1:=h x (Ag ..)
  have h2:=WS f N l (fun y hy=>h y (An _ hy))
  rw [AG,Cn,AA,AB,Iy]
  omega
theorem cF {c:CE} (h:QC c=true) (hs:∀t∈c.args,t.size≤100000):(fmtC c).length≤40000000:=by
 simp only [QC,AM,decide_eq_true_eq,A4] at h
 rw [fmtC,AA]
 have h1:=J7 h.1.1
 have h2:=PQ (c.args.map Au)
 have h3:JL (c.args.map Au)≤(c.args.map Au).length * (6000000+3):=Uz (fun x hx=>by
  obtain ⟨t,ht,rfl⟩:=Iw.1 hx
  have:=Sf 40 t (h.2 t ht)
  have:=hs t ht
  omega)
 have h4:(c.args.map Au).length * (6000000+3)≤6 * (6000000+3):=Ah _ (by simpa using h.1.2)
 omega
theorem lJ {d:DE} (h:G8 d=true) (hs:∀c∈d.cons,∀t∈c.args,t.size≤100000):(M9 d).length≤400000000:=by
 simp only [G8,AM,decide_eq_true_eq,A4] at h
 obtain ⟨⟨⟨⟨⟨h1,h2⟩,h3⟩,h4⟩,h5⟩,h6⟩:=h
 rw [M9]
 have g1:=J7 h1
 have g2:=PQ d.vars
 have g3:JL d.vars≤d.vars.length * 27:=Uz (fun x hx=>Fl (h3 x hx))
 have g4:d.vars.length * 27≤6 * 27:=Ah _ h2
 have g5:=E2 (sep:=[32,124,32]) (by decide) (d.cons.map fmtC)
 have g6:JL (d.cons.map fmtC)≤(d.cons.map fmtC).length * (40000000+3):=Uz (fun x hx=>by
  obtain ⟨t,ht,rfl⟩:=Iw.1 hx
  exact cF (h6 t ht) (hs t ht))
 have g7:(d.cons.map fmtC).length * (40000000+3)≤8 * (40000000+3):=Ah _ (by simpa using h5)
 simp only [AA,AB,AD]
 omega
theorem qV {f:FE} (h:MW f=true) (hb:f.body.nb) (hs:f.body.size≤600):(Oy f).length≤1000000:=by
 simp only [MW,AM,decide_eq_true_eq,A4] at h
 rw [Oy]
 have g1:=Fl h.1.1
 have g2:=Se f.params
 have g3:JL f.params≤f.params.length * 27:=Uz (fun x hx=>Fl (h.2 x hx))
 have g4:f.params.length * 27≤6 * 27:=Ah _ h.1.2
 have g5:=V9 f.body hb
 simp only [AA,AB,AD]
 omega
theorem nS {p:Pg} (h:Cq p=true) (hs:∀d∈p.data,∀c∈d.cons,∀t∈c.args,t.size≤100000):(V1 p).length≤10000000000:=by
 obtain ⟨⟨h1,h2⟩,h3,h4⟩:=TJ h
 rw [V1,AA]
 have g1:=WS M9 400000000 p.data (fun d hd=>lJ (h2 d hd) (hs d hd))
 have g2:=WS Oy 1000000 p.SI (fun f hf=>qV (h4 f hf).1 (h4 f hf).2.1 (h4 f hf).2.2)
 have g3:p.data.length * 400000000≤12 * 400000000:=Ah _ h1
 have g4:p.SI.length * 1000000≤24 * 1000000:=Ah _ h3
 omega
end Go.Ab
namespace Go.Ab
open Go.Proofs
section
variable {α β:Type}
theorem K0 {f:β→α→Option β} {l:List α} {i:Nat} {x:α} {a b:β} (h:(l.take i).foldlM f a=some b) (hx:l[i]?=some x):(l.take (i+1)).foldlM f a=f b x:=by
 rw [E3 hx,List.foldlM_append,h]
 simp [List.foldlM]
theorem KZ {f:β→α→Option β} {l:List α} {i:Nat} {x:α} {a b:β} (h:(l.take i).foldlM f a=some b) (hx:l[i]?=some x) (hn:f b x=none):l.foldlM f a=none:=by
 conv=>lhs;rw [← Et i l]
 rw [List.foldlM_append,h,El hx]
 simp [List.foldlM,hn]
theorem Yb {f:Nat→α→Option Nat}:∀(l:List α) (a b:Nat),(∀x∈l,∀a b,f a x=some b→b≤a)→l.foldlM f a=some b→b≤a
 |[],a,b,_,h=>by simp [List.foldlM] at h;omega
 |x::l,a,b,hf,h=>by
  simp only [List.foldlM,AT,AF] at h
  obtain ⟨c,hc,h⟩:=h
  have:=Yb l c b (fun y hy=>hf y (An _ hy)) h
  have:=hf x (Ag ..) a c hc
  omega
end
theorem TH:∀(d q:Nat) (e:Ex) (r:Nat),vEx d q e=some r→r≤q
 |0,q,e,r,h=>by cases h
 |d+1,0,.mk ..,r,h=>by cases h
 |d+1,q+1,.mk o n u ns ks al,r,h=>by
  simp only [vEx] at h
  split at h
  · simp only [AF] at h
    obtain ⟨c,hc,h⟩:=h
    have h1:=Yb ks q c (fun x _ a b hab=>TH d a x b hab) hc
    have h2:=Yb al c r (fun x _ a b hab=>by cases x;exact TH d a _ b hab) h
    omega
  · cases h
def VXQ (enc:Nat→Int) (j d q:Nat) (e:Ex) (σ:AN) (v:AV) (σ':AN):Prop:=
 ∃b z,v= .d (.bool b)∧σ'=σ.AK j [.d (.int .i64 z)]∧b=(vEx d q e).isSome∧∀r,vEx d q e=some r→z=enc r
theorem VXQ.yes {enc:Nat→Int} {j d q:Nat} {e:Ex} {σ:AN} {P:Program} {f:FuncId} {args:List AV} {r:Nat} (h:AQ P f args σ (VXQ enc j d q e σ)) (hr:vEx d q e=some r):AQ P f args σ (fun v σ'=>v= .d (.bool true)∧σ'=σ.AK j [.d (.int .i64 (enc r))]):=
 h.mono (by
  rintro v σ' ⟨b,z,rfl,rfl,rfl,h⟩
  rw [h r hr,hr];exact ⟨rfl,rfl⟩)
theorem VXQ.no {enc:Nat→Int} {j d q:Nat} {e:Ex} {σ:AN} {P:Program} {f:FuncId} {args:List AV} (h:AQ P f args σ (VXQ enc j d q e σ)) (hr:vEx d q e=none):AQ P f args σ (fun v σ'=>v= .d (.bool false)∧∃z,σ'=σ.AK j [.d (.int .i64 z)]):=
 h.mono (by
  rintro v σ' ⟨b,z,rfl,rfl,rfl,h⟩
  rw [hr];exact ⟨rfl,z,rfl⟩)
def fK (d:Nat):Nat→Ex→Option Nat:=fun q e=>vEx d q e
def fA (d:Nat):Nat→Al→Option Nat:=fun q a=>match a with| .mk _ _ b=>vEx d q b
theorem TI (d q:Nat) (o:Int) (n:Str) (u:Int) (ns:List Str) (ks:List Ex) (al:List Al):vEx (d+1) (q+1) (.mk o n u ns ks al)=if GJ o n u ns ks.length al then (ks.foldlM (fK d) q).bind fun q=>al.foldlM (fA d) q else none:=rfl
def M8 (r:Nat):Int:=((600 - r:Nat):Int)
set_option maxHeartbeats 4000000 in
theorem XU (j:Nat):∀(d q:Nat),d≤40→q≤600→∀(e:Ex) (σ:AN),σ.blk j=some [.d (.int .i64 (M8 q))]→
 AQ Tryz.prog 53 [.gp j 0,exA e,.d (.int .i64 ((41 - d:Nat):Int))] σ (VXQ M8 j d q e σ):=by
 intro d
 induction d with
 |zero=>
  intro q _ hq e σ hj
  obtain ⟨o,n,u,ns,ks,al⟩:=e
  refine KO (by simp) ?_
  rw [Hm,exA,Ex.A3]
  have hw:IntKind.i64.wrap (M8 q+1)=((601 - q:Nat):Int):=by rw [M8,Av (by omega) (by omega)];omega
  have h4:decide ((40:Int) < ((41 - 0:Nat):Int))=true:=by decide
  (repeat' (first|refine Run.ct rfl ?_|((first|refine Run.reg mixed ?_|refine Run.AJ ?_|refine Run.Fq CK (AN.le_refl _) ?_|(refine GL rfl (fun h=>?_) (fun h=>?_)<;>try (cases h;done)))<;>try simp -implicitDefEqProofs only [hj,hw,h4,go_sem])|fail))
  all_goals exact ⟨false,_,rfl,rfl,rfl,fun r h=>by cases h⟩
 |succ d ihd=>
  intro q hd hq e σ hj
  obtain ⟨o,n,u,ns,ks,al⟩:=e
  refine KO (by simp) ?_
  rw [Hm,exA,Ex.A3]
  cases q with
  |zero=>
   have hw:IntKind.i64.wrap (M8 0+1)=601:=by decide
   have h6:decide ((600:Int) < 601)=true:=by decide
   (repeat' (first|refine Run.ct rfl ?_|((first|refine Run.reg mixed ?_|refine Run.AJ ?_|refine Run.Fq CK (AN.le_refl _) ?_)<;>try simp -implicitDefEqProofs only [hj,hw,h6,go_sem])|fail))
   exact ⟨false,_,rfl,rfl,rfl,fun r h=>by cases h⟩
  |succ q=>
  have hw:IntKind.i64.wrap (M8 (q+1)+1)=M8 q:=by
   have e:M8 (q+1)+1=M8 q:=by simp only [M8];omega
   rw [e];exact Av (by simp only [M8];omega) (by simp only [M8];omega)
  have h6:decide ((600:Int) < M8 q)=false:=decide_eq_false (Int.not_lt.2 (by unfold M8;omega))
  have h4:decide ((40:Int) < ((41 - (d+1):Nat):Int))=false:=by simp only [decide_eq_false_iff_not];omega
  have hnode:=fR o n u ns ks al
  simp only [exA,Ex.A3,AG,AH] at hnode
  have hw2:IntKind.i64.wrap (((41 - (d+1):Nat):Int)+1)=((41 - d:Nat):Int):=by
   have e:((41 - (d+1):Nat):Int)+1=((41 - d:Nat):Int):=by omega
   rw [e];exact Av (by omega) (by omega)
  cases hn:GJ o n u ns ks.length al with
  |false=>
   rw [hn] at hnode
   (repeat' (first|refine Run.ct rfl ?_|((first|refine Run.reg mixed ?_|refine Run.AJ ?_|refine Run.Fq CK (AN.le_refl _) ?_|refine AI.det (hnode _) ?_)<;>try simp -implicitDefEqProofs only [hj,hw,h6,h4,go_sem])|fail))
   exact ⟨false,_,rfl,rfl,by rw [TI,if_neg (by simp [hn])];rfl,fun r h=>by rw [TI,if_neg (by simp [hn])] at h;cases h⟩
  |true=>
  rw [hn] at hnode
  have hres:vEx (d+1) (q+1) (.mk o n u ns ks al)=(ks.foldlM (fK d) q).bind fun q=>al.foldlM (fA d) q:=by rw [TI,if_pos hn]
  generalize hV:VXQ M8 j (d+1) (q+1) (.mk o n u ns ks al) σ=V
  have hno:∀z,vEx (d+1) (q+1) (.mk o n u ns ks al)=none→V (.d (.bool false)) (σ.AK j [.d (.int .i64 z)]):=fun z h=>by
   rw [← hV];exact ⟨false,z,rfl,rfl,by rw [h];rfl,fun r hr=>by rw [h] at hr;cases hr⟩
  have hyes:∀r,vEx (d+1) (q+1) (.mk o n u ns ks al)=some r→V (.d (.bool true)) (σ.AK j [.d (.int .i64 (M8 r))]):=fun z h=>by
   rw [← hV];exact ⟨true,_,rfl,rfl,by rw [h];rfl,fun r hr=>by rw [h] at hr;cases hr;rfl⟩
  clear hV
  (repeat' (first|refine Run.ct rfl ?_|((first|refine Run.reg mixed ?_|refine Run.AJ ?_|refine AI.det (hnode _) ?_)<;>try simp -implicitDefEqProofs only [hj,hw,h6,h4,AE,go_sem])|fail))
  refine Run.cell 4 4 rfl rfl (fun hb4=>?_)
  refine Run.cell 4 5 rfl rfl (fun hb5=>?_)
  simp only [AV.HW,AE] at hb4 hb5
  refine Run.B3 ?_
  refine Run.B6 ((fun (a0:AV) (a2:AV) (a4:AV) (a33:AV) (a34:AV)=>fun (y:Nat×Nat)=>put 0 a0 (put 2 a2 (put 4 a4 (put 33 a33 (put 34 a34 (put 35 (.d (.int .i64 y.1)) U)))))) _ _ _ _ _) (fun _=>BZ 4 [.d (.int .i64 o),.d (.str n),.d (.int .i64 u),.d (.sl (ns.map BM)),.d (.sl (ks.map Ex.enc)),.d (.sl (al.map Al.enc))] E) (fun y=>σ.AK j [.d (.int .i64 (M8 y.2))])
   (fun y=>y.1≤ks.length∧y.2≤q∧(ks.take y.1).foldlM (fK d) q=some y.2) (fun y=>ks.length - y.1) ?_ (0,q) ⟨by simp,A8 _,rfl⟩
  rintro ⟨i,p⟩ ⟨hi,hp,hok⟩ ih
  simp only at hi hp hok
  by_cases hlt:i < ks.length
  · obtain ⟨x,hx⟩:=Bu hlt
    have he:=Bi (enc:=Ex.enc) hx
    have hw1:IntKind.i64.wrap ((i:Int)+1)=((i+1:Nat):Int):=by rw [Av (by omega) (by omega)];omega
    have hc:=ihd p (by omega) (by omega) x (σ.AK j [.d (.int .i64 (M8 p))]) (by simp only [AO,if_true])
    cases hv:vEx d p x with
    |some r=>
     have hr:=TH _ _ _ _ hv
     have hc:=VXQ.yes hc hv
     have hs:=K0 hok hx
     obtain ⟨xo,xn,xu,xs,xk,xa⟩:=x
     simp only [Ex.A3,exA,AG,AH] at he hc
     (repeat' (first|refine Run.ct rfl ?_|((first|refine Run.reg mixed ?_|refine Run.AJ ?_|(refine AI.mk rfl hc ?_;rintro _ _ ⟨rfl,rfl⟩))<;>try simp -implicitDefEqProofs only [BQ hlt,he,hw1,hw2,go_sem])|fail))
     exact ih (i+1,r) ⟨by simp only;omega,by simp only;omega,by simp only;rw [hs];exact hv⟩ (by simp only;omega)
    |none=>
     have hc:=VXQ.no hc hv
     have hs:=KZ hok hx hv
     obtain ⟨xo,xn,xu,xs,xk,xa⟩:=x
     simp only [Ex.A3,exA,AG,AH] at he hc
     (repeat' (first|refine Run.ct rfl ?_|((first|refine Run.reg mixed ?_|refine Run.AJ ?_|refine Run.Fq CK (AN.le_refl _) ?_|(refine AI.mk rfl hc ?_;rintro _ _ ⟨rfl,z,rfl⟩))<;>try simp -implicitDefEqProofs only [BQ hlt,he,hw1,hw2,go_sem])|fail))
     exact hno z (by rw [hres,hs];rfl)
  · rw [A6 (by omega)] at hok
    rw [hok,B2] at hres
    clear ih
    (repeat' (first|refine Run.ct rfl ?_|((first|refine Run.reg mixed ?_|refine Run.AJ ?_)<;>try simp -implicitDefEqProofs only [DA hlt,AE,go_sem])|fail))
    refine Run.B3 ?_
    refine Run.B6 ((fun (a0:AV) (a2:AV) (a47:AV) (a48:AV)=>fun (y:Nat×Nat)=>put 0 a0 (put 2 a2 (put 47 a47 (put 48 a48 (put 49 (.d (.int .i64 y.1)) U))))) _ _ _ _) (fun _=>E) (fun y=>σ.AK j [.d (.int .i64 (M8 y.2))])
     (fun y=>y.1≤al.length∧y.2≤q∧(al.take y.1).foldlM (fA d) p=some y.2) (fun y=>al.length - y.1) ?_ (0,p) ⟨by simp,hp,rfl⟩
    rintro ⟨i,p⟩ ⟨hi,hp,hok⟩ ih
    simp only at hi hp hok
    by_cases hlt:i < al.length
    · obtain ⟨x,hx⟩:=Bu hlt
      have he:=Bi (enc:=Al.enc) hx
      have hw1:IntKind.i64.wrap ((i:Int)+1)=((i+1:Nat):Int):=by rw [Av (by omega) (by omega)];omega
      obtain ⟨xc,xv,x⟩:=x
      have hc:=ihd p (by omega) (by omega) x (σ.AK j [.d (.int .i64 (M8 p))]) (by simp only [AO,if_true])
      cases hv:vEx d p x with
      |some r=>
       have hr:=TH _ _ _ _ hv
       have hc:=VXQ.yes hc hv
       have hs:=K0 hok hx
       obtain ⟨xo,xn,xu,xs,xk,xa⟩:=x
       simp only [Al.A3,Ex.A3,exA,AG,AH] at he hc
       (repeat' (first|refine Run.ct rfl ?_|((first|refine Run.reg mixed ?_|refine Run.AJ ?_|(refine AI.mk rfl hc ?_;rintro _ _ ⟨rfl,rfl⟩))<;>try simp -implicitDefEqProofs only [BQ hlt,he,hw1,hw2,go_sem])|fail))
       exact ih (i+1,r) ⟨by simp only;omega,by simp only;omega,by simp only;rw [hs];exact hv⟩ (by simp only;omega)
      |none=>
       have hc:=VXQ.no hc hv
       have hs:=KZ hok hx hv
       obtain ⟨xo,xn,xu,xs,xk,xa⟩:=x
       simp only [Al.A3,Ex.A3,exA,AG,AH] at he hc
       (repeat' (first|refine Run.ct rfl ?_|((first|refine Run.reg mixed ?_|refine Run.AJ ?_|refine Run.Fq CK (AN.le_refl _) ?_|(refine AI.mk rfl hc ?_;rintro _ _ ⟨rfl,z,rfl⟩))<;>try simp -implicitDefEqProofs only [BQ hlt,he,hw1,hw2,go_sem])|fail))
       exact hno z (by rw [hres,hs])
    · rw [A6 (by omega)] at hok
      (repeat' (first|refine Run.ct rfl ?_|((first|refine Run.reg mixed ?_|refine Run.AJ ?_|refine Run.Fq CK (AN.le_refl _) ?_)<;>try simp -implicitDefEqProofs only [DA hlt,go_sem])|fail))
      exact hyes p (by rw [hres,hok])
theorem Q6 (u:Int) (σ:AN):AQ Tryz.prog 111 [.d (.int .i64 u)] σ (fun v σ'=>v= .d (.int .i64 (Hk u))∧σ'=σ):=by
 refine Yk (by simp) ?_
 rw [Ax]
 by_cases h:1≤u∧u≤7
 · obtain ⟨h1,h2⟩:=h
   obtain rfl|rfl|rfl|rfl|rfl|rfl|rfl:u=1∨u=2∨u=3∨u=4∨u=5∨u=6∨u=7:=by omega
   all_goals (repeat' (first|refine Run.ct rfl ?_|((first|refine Run.reg mixed ?_|refine Run.AJ ?_|refine Run.A9 JW (AN.le_refl _) ?_)<;>try simp -implicitDefEqProofs only [Ak,Int.reduceLT,BB,Ap,go_sem])|(refine ⟨fun h=>?_,fun h=>?_⟩<;>first|(cases h;done)|try simp only [h])|fail))
   all_goals rfl
 · have hp:Hk u=0:=by
    have:=cS u;omega
   rw [hp]
   by_cases h1:u < 1
   · (repeat' (first|refine Run.ct rfl ?_|((first|refine Run.reg mixed ?_|refine Run.AJ ?_|refine Run.A9 JW (AN.le_refl _) ?_)<;>try simp -implicitDefEqProofs only [decide_eq_true h1,go_sem])|fail))
     rfl
   · have h8:decide (((8:Nat):Int)≤u)=true:=by simp;omega
     (repeat' (first|refine Run.ct rfl ?_|((first|refine Run.reg mixed ?_|refine Run.AJ ?_|refine Run.A9 JW (AN.le_refl _) ?_)<;>try simp -implicitDefEqProofs only [decide_eq_false h1,h8,go_sem])|fail))
     rfl
end Go.Ab
