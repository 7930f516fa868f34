/- Lengths of texts. The compact codes of the functions of this seat, computed out of the translation. Conditions: none. -/
import Derived.Lib.ItoaLen
import Derived.Test.YtifplkldbbcldaaGreatDoorProg
import Derived.KernelRfl
import Derived.Test.YtifplkldbbcldaaGreatDoorXZd
set_option linter.unusedSimpArgs false
set_option linter.unusedVariables false
set_option maxRecDepth 4000
set_option maxHeartbeats 8000000
open Bool renaming or_eq_true→CR,and_eq_true→AR,false_eq_true→AL
open List renaming map_cons→AB,flatten_cons→F7,length_append→AA,length_cons→AG,length_nil→AI,mem_cons_self→BB,mem_cons_of_mem→Bh,all_eq_true→A7,mem_map→Lw,length_eq_zero_iff→OE
open Nat renaming succ_mul→Ly,mul_le_mul_right→Aj
open Option renaming bind_eq_bind→AU,bind_eq_some_iff→AF,isSome_iff_exists→YK
namespace Go.Ab
theorem IP {s:Str} (h:EE s=true):s.length≤24:=by
 obtain ⟨b,r,rfl,_,_,h3,h4⟩:=vQ h
 first|exact h3|exact h4|omega
theorem PX {s:Str} (h:upperB s=true):s.length≤24:=by
 obtain ⟨b,r,rfl,_,_,h4⟩:=tE h
 exact h4
theorem Vt {s:Str} (h:KA s=true):(shown s).length≤24:=by
 rw [shown]
 split
 · simp
 · rename_i hs
   simp only [KA,CR,beq_iff_eq] at h
   exact IP (h.resolve_left hs)
def JL (l:List Str):Nat:=EH (fun x=>x.length+3) l
theorem Gz (x:Str) (l:List Str):JL (x::l)=x.length+3+JL l:=by simp [JL,EH]
theorem oV (sep:Str) (hs:sep.length≤3):∀l:List Str,(Lib.joinTail sep l).length≤JL l
 |[]=>by simp [Lib.joinTail,JL,EH]
 |x::l=>by
  have:=oV sep hs l
  rw [Gz]
  simp only [Lib.joinTail,AB,F7,AA] at this ⊢
  omega
theorem T9 {sep:Str} (hs:sep.length≤3) (l:List Str):(Lib.join l sep).length≤JL l:=by
 cases l with
 |nil=>simp [Lib.join_nil]
 |cons x l=>
  rw [Lib.join_cons,Gz,AA]
  have:=oV sep hs l
  omega
theorem PW (l:List Str):(Lb l).length≤2+JL l:=by
 rw [Lb]
 split
 · simp
 · have:=T9 (sep:=[44,32]) (by decide) l
   simp only [Lc,cms,AG,AA,AI];omega
theorem Sz (l:List Str):(L9 l).length≤2+JL l:=by
 have:=T9 (sep:=[44,32]) (by decide) l
 simp only [L9,Lc,cms,AG,AA,AI];omega
theorem dM {l:List Str} {N:Nat} (h:∀x∈l,x.length≤N):JL l≤l.length * (N+3):=by
 induction l with
 |nil=>simp [JL,EH]
 |cons x l ih=>
  rw [Gz,AG,Ly]
  have h1:=h x (BB ..)
  have h2:=ih (fun y hy=>h y (Bh _ hy))
  omega
theorem AB2 {α:Type} (f:α→Str) (μ:α→Nat) (l:List α) (h:∀x∈l,(f x).length+3≤μ x):JL (l.map f)≤EH μ l:=by
 induction l with
 |nil=>simp [JL,EH]
 |cons x l ih=>
  rw [AB,Gz]
  have h1:=h x (BB ..)
  have h2:=ih (fun y hy=>h y (Bh _ hy))
  simp only [EH,AB,List.sum_cons] at h2 ⊢
  omega
theorem xR {α:Type} (c:Nat) (μ:α→Nat) (l:List α):EH (fun x=>c * μ x) l=c * EH μ l:=by
 induction l with
 |nil=>simp [EH]
 |cons x l ih=>simp only [EH,AB,List.sum_cons,Nat.mul_add] at ih ⊢;omega
theorem eF:∀l:List Str,JL l.dropLast+(l.getLastD []).length≤JL l
 |[]=>by simp [JL,EH]
 |[x]=>by simp [JL,EH]
 |x::y::l=>by
  have:=eF (y::l)
  rw [List.dropLast_cons_cons,Gz,Gz]
  have e:(x::y::l).getLastD []=(y::l).getLastD []:=by simp
  rw [e];omega
theorem xD {k:Int} {n:Str} {q:Nat} (h:OT k n q=true):n.length≤24:=by
 unfold OT at h
 repeat' (split at h)
 all_goals simp only [AR,beq_iff_eq,AL] at h
 all_goals first|exact IP h.1|exact PX h.1|(have:=h.1;subst this;simp)|(have:=h.1.1;subst this;simp)
theorem vA {k:Int} {n:Str} (hn:n.length≤24) (ts:List Str):(tyN k n ts).length≤40+JL ts:=by
 have h1:=PW ts
 have h2:=Sz ts.dropLast
 have h3:=eF ts
 unfold tyN
 repeat' split
 all_goals simp only [AA,AG,AI]
 all_goals omega
theorem jA:∀(d:Nat) (t:TE),Cq d t=true→(Es t).length+3≤60 * t.size
 |0,t,h=>by simp [Cq] at h
 |d+1,.mk k n l,h=>by
  rw [Cq,AR,A7] at h
  rw [Es,Uv,TE.size,Ps]
  have h1:=vA (k:=k) (xD h.1) (l.map Es)
  have h2:=AB2 Es (fun t=>60 * t.size) l (fun x hx=>jA d x (h.2 x hx))
  rw [xR] at h2
  omega
theorem zS {o:Int} {n:Str} (h:nmB o n=true):n.length≤24∧(shown n).length≤24:=by
 unfold nmB at h
 have hs:n.length≤24→(shown n).length≤24:=fun h=>by rw [shown];split<;>simp_all
 repeat' (split at h)
 · exact ⟨IP h,hs (IP h)⟩
 · exact ⟨PX h,hs (PX h)⟩
 · refine ⟨?_,Vt h⟩
   simp only [KA,CR,beq_iff_eq] at h
   rcases h with rfl|h
   · simp
   · exact IP h
 · simp only [beq_iff_eq] at h;subst h;exact ⟨by simp,by decide⟩
theorem zZ {o:Int} {ns:List Str} (h:nsB o ns=true):JL (ns.map shown)≤162∧JL ns≤162:=by
 have key:∀m:List Str,m.length≤6→(∀x∈m,x.length≤24)→JL m≤162:=fun m h1 h2=>by
  have:=dM h2
  have:m.length * 27≤6 * 27:=Aj _ h1
  omega
 have hb:∀s:Str,KA s=true→s.length≤24:=fun s h=>by
  simp only [KA,CR,beq_iff_eq] at h
  rcases h with rfl|h
  · simp
  · exact IP h
 have hnb:∀s:Str,EE s=true→KA s=true:=fun s h=>by simp [KA,h]
 unfold nsB at h
 split at h
 · simp only [AR,decide_eq_true_eq,A7] at h
   refine ⟨key _ (by simpa using h.1.2) (fun x hx=>?_),key _ h.1.2 (fun x hx=>hb x (h.2 x hx))⟩
   obtain ⟨y,hy,rfl⟩:=Lw.1 hx
   exact Vt (h.2 y hy)
 · split at h
   · simp only [AR,decide_eq_true_eq,A7] at h
     refine ⟨key _ (by simpa using h.1) (fun x hx=>?_),key _ h.1 (fun x hx=>IP (h.2 x hx))⟩
     obtain ⟨y,hy,rfl⟩:=Lw.1 hx
     exact Vt (hnb y (h.2 y hy))
   · rw [decide_eq_true_eq,OE] at h
     subst h;simp [JL,EH]
theorem uW {c:Str} {vs:List Str} {b:Ex} (h:Re (.mk c vs b)=true):(Rg (.mk c vs b)).length≤200+(BO b).length:=by
 simp only [Re,AR,decide_eq_true_eq,A7] at h
 rw [Rg,alT]
 have h1:=PX h.1.1
 have h2:=PW (vs.map shown)
 have h3:JL (vs.map shown)≤(vs.map shown).length * 27:=dM (fun x hx=>by obtain ⟨y,hy,rfl⟩:=Lw.1 hx;exact Vt (h.2 y hy))
 have h4:(vs.map shown).length * 27≤6 * 27:=Aj _ (by simpa using h.1.2)
 simp only [AA,AG,AI]
 omega
theorem zA (l:List Str):(at0 l 0).length+JL l.tail≤JL l:=by
 cases l with
 |nil=>simp [at0,JL,EH]
 |cons x l=>
  rw [Gz]
  show x.length+JL l≤_
  omega
theorem iX (l:List Str):(at0 l 0).length+(at0 l 1).length+(at0 l 2).length≤JL l:=by
 match l with
 |[]=>simp [at0,JL,EH]
 |[x]=>simp [at0,JL,EH]
 |[x,y]=>
  rw [Gz,Gz]
  show x.length+y.length+0≤_
  omega
 |x::y::z::l=>
  rw [Gz,Gz,Gz]
  show x.length+y.length+z.length≤_
  omega
theorem fZ (d:Nat) (k:Ex) (t:Str):(pl d k t).length≤2+t.length:=by
 rw [pl];split
 · simp only [Lc,AG,AA,AI];omega
 · omega
theorem iZ (t:Str):(Lc t).length≤2+t.length:=by simp only [Lc,AG,AA,AI];omega
theorem uX (ks:List Ex) (ts:List Str):(ACJ ks ts).length≤8+JL ts:=by
 unfold ACJ
 have h1:=Sz ts.tail
 have h2:=zA ts
 split
 · omega
 · have h3:=iZ (at0 ts 0)
   rename_i k _
   have h4:=fZ 4 k (at0 ts 0)
   rw [AA]
   split<;>omega
theorem uZ (u:Int):(opT u).length≤10:=by
 unfold opT sE
 split<;>decide
theorem uY (u:Int) (ks:List Ex) (ts:List Str):(ACP u ks ts).length≤20+JL ts:=by
 unfold ACP
 have h2:=iX ts
 have h3:=uZ u
 split
 · rename_i a b
   have h4:=fZ (if Hz u=1 then 2 else Hz u) a (at0 ts 0)
   have h5:=fZ (if Hz u=1 then 2 else Hz u+1) b (at0 ts 1)
   simp only [AA,AG]
   omega
 · simp
theorem zD (u:Int):(prT u).length≤10:=by
 unfold prT
 repeat' split
 all_goals decide
theorem zC {o u:Int} (h:nuB o u=true):(Lib.itoa u).length≤21:=by
 refine Lib.itoa_length_le u ?_ ?_
 all_goals
  unfold nuB at h
  repeat' (split at h)
  all_goals simp only [AR,decide_eq_true_eq,beq_iff_eq] at h
  all_goals omega
theorem zB {o:Int} {n:Str} {u:Int} {ns:List Str} (hn:nmB o n=true) (hu:nuB o u=true) (hs:nsB o ns=true) (ks:List Ex) (ts as':List Str):(QH o n u ns ks ts as').length≤250+JL ts+JL as':=by
 obtain ⟨h1,h2⟩:=zS hn
 obtain ⟨h3,h4⟩:=zZ hs
 have h5:=PW ts
 have h6:=Sz ts
 have h7:=iX ts
 have h8:=uX ks ts
 have h9:=uY u ks ts
 have h10:=zD u
 have h11:=zC hu
 have h12:=iZ (Lib.itoa u)
 have h13:=PW (ns.map shown)
 have h14:=Sz ns
 have h15:=T9 (sep:=[32,124,32]) (by decide) as'
 unfold QH
 by_cases h:o=7
 · rw [if_pos h];try simp only [AA,AG,AI]
   omega
 rw [if_neg h];clear h
 by_cases h:o=8
 · rw [if_pos h];try simp only [AA,AG,AI]
   omega
 rw [if_neg h];clear h
 by_cases h:o=9
 · rw [if_pos h];try simp only [AA,AG,AI]
   omega
 rw [if_neg h];clear h
 by_cases h:o=10
 · rw [if_pos h];try simp only [AA,AG,AI]
   omega
 rw [if_neg h];clear h
 by_cases h:o=11
 · rw [if_pos h];try simp only [AA,AG,AI]
   omega
 rw [if_neg h];clear h
 by_cases h:o=17
 · rw [if_pos h];try simp only [AA,AG,AI]
   omega
 rw [if_neg h];clear h
 by_cases h:o=13
 · rw [if_pos h];try simp only [AA,AG,AI]
   omega
 rw [if_neg h];clear h
 by_cases h:o=12
 · rw [if_pos h];try simp only [AA,AG,AI]
   omega
 rw [if_neg h];clear h
 by_cases h:o=1
 · rw [if_pos h];try simp only [AG,AI]
   omega
 rw [if_neg h];clear h
 by_cases h:o=2
 · rw [if_pos h];split<;>(simp only [AG,AI];omega)
 rw [if_neg h];clear h
 by_cases h:o=3
 · rw [if_pos h];try simp only [AA,AG,AI]
   omega
 rw [if_neg h];clear h
 by_cases h:o=5
 · rw [if_pos h];try simp only [AA,AG,AI]
   omega
 rw [if_neg h];clear h
 by_cases h:o=14
 · rw [if_pos h];try simp only [AA]
   omega
 rw [if_neg h];clear h
 by_cases h:o=16
 · rw [if_pos h];try simp only [AA,AG,AI]
   omega
 rw [if_neg h];clear h
 by_cases h:o=15
 · rw [if_pos h];try simp only [AA,AG,AI]
   omega
 rw [if_neg h];clear h
 rw [AA];omega
mutual
theorem fY:∀(e:Ex),e.nb→(BO e).length+250≤800 * e.size
 | .mk o n u ns ks al,h=>by
  rw [Ex.nb] at h
  have hn:=h.1
  simp only [Iw,AR] at hn
  obtain ⟨⟨⟨⟨hnm,hnu⟩,hns⟩,has⟩,hnk⟩:=hn
  rw [BO,Ex.size]
  have h1:=zB hnm hnu hns ks (Xm ks) (KN al)
  have h2:=iY ks h.2.1
  have h3:=iW al h.2.2 (ACN has)
  omega
theorem iY:∀(l:List Ex),Ex.nbs l→JL (Xm l)≤800 * Ex.BY l
 |[],_=>by simp [Xm,JL,EH]
 |e::l,h=>by
  rw [Ex.nbs] at h
  have h1:=fY e h.1
  have h2:=iY l h.2
  rw [Xm,Gz,Ex.BY]
  omega
theorem iW:∀(l:List Al),Al.nbs l→(∀a∈l,Re a=true)→JL (KN l)≤800 * Al.BY l
 |[],_,_=>by simp [KN,JL,EH]
 | .mk c vs b::l,h,ha=>by
  rw [Al.nbs,Al.nb] at h
  have h1:=fY b h.1
  have h2:=iW l h.2 (fun a hx=>ha a (Bh _ hx))
  have h3:=uW (ha _ (BB ..))
  rw [KN,Gz,Al.BY,Al.size]
  omega
end
theorem T8 {α:Type} {f:Nat→α→Option Nat} {μ:α→Nat}:∀(l:List α) (q r:Nat),(∀x∈l,∀a b,f a x=some b→μ x+b≤a)→l.foldlM f q=some r→EH μ l+r≤q
 |[],q,r,_,h=>by
  simp only [List.foldlM_nil] at h
  cases h
  simp [EH]
 |y::l,q,r,hf,h=>by
  rw [List.foldlM_cons,AU,AF] at h
  obtain ⟨b,hb,h⟩:=h
  have h1:=hf y (BB ..) q b hb
  have h2:=T8 l b r (fun x hx=>hf x (Bh _ hx)) h
  simp only [EH,AB,List.sum_cons] at h2 ⊢
  omega
theorem eE:∀l:List Ex,Ex.BY l=EH Ex.size l
 |[]=>rfl
 |e::l=>by rw [Ex.BY,eE l];simp [EH]
theorem eD:∀l:List Al,Al.BY l=EH Al.size l
 |[]=>rfl
 |e::l=>by rw [Al.BY,eD l];simp [EH]
theorem oC:∀(d q:Nat) (e:Ex) (r:Nat),vEx d q e=some r→e.size+r≤q
 |0,q,.mk ..,r,h=>by simp [vEx] at h
 |d+1,0,.mk ..,r,h=>by cases h
 |d+1,q+1,.mk o n u ns ks al,r,h=>by
  simp only [vEx] at h
  split at h
  · rw [AF] at h
    obtain ⟨c,hc,h⟩:=h
    have h1:=T8 (μ:=Ex.size) ks q c (fun x _ a b hab=>oC d a x b hab) hc
    have h2:=T8 (μ:=Al.size) al c r (fun x _ a b hab=>by
     obtain ⟨cc,vs,bd⟩:=x
     rw [Al.size]
     exact oC d a bd b hab) h
    rw [Ex.size,eE,eD]
    omega
  · cases h
theorem gY {q r:Nat} {f:FE} (h:RJ q f=some r):Xn f=true∧f.body.nb∧f.body.size+r≤q:=by
 unfold RJ at h
 split at h
 · rename_i hh;exact ⟨hh,oB _ _ _ _ h,oC _ _ _ _ h⟩
 · cases h
theorem T0 {p:Pg} (h:DM p=true):(p.data.length≤12∧∀d∈p.data,JY d=true)∧p.Zc.length≤24∧∀f∈p.Zc,Xn f=true∧f.body.nb∧f.body.size≤600:=by
 simp only [DM,AR,decide_eq_true_eq,A7] at h
 obtain ⟨⟨⟨h1,h2⟩,h3⟩,h4⟩:=h
 obtain ⟨r,hr⟩:=YK.1 h4
 have hs:=T8 (μ:=fun f=>f.body.size) p.Zc 600 r (fun x _ a b hab=>(gY hab).2.2) hr
 have ha:=T7 (Q:=fun f=>Xn f=true∧f.body.nb) p.Zc 600 r (fun x _ a b hab=>⟨(gY hab).1,(gY hab).2.1⟩) hr
 refine ⟨⟨h1,h3⟩,h2,fun f hf=>⟨(ha f hf).1,(ha f hf).2,?_⟩⟩
 have:=W2 (μ:=fun f:FE=>f.body.size) hf
 omega
theorem Wz {α:Type} (f:α→Str) (N:Nat):∀l:List α,(∀x∈l,(f x).length≤N)→(l.map f).flatten.length≤l.length * N
 |[],_=>by simp
 |x::l,h=>by
  have h1:=h x (BB ..)
  have h2:=Wz f N l (fun y hy=>h y (Bh _ hy))
  rw [AB,F7,AA,AG,Ly]
  omega
theorem rU {c:CE} (h:Vg c=true) (hs:∀t∈c.args,t.size≤100000):(fmtC c).length≤40000000:=by
 simp only [Vg,AR,decide_eq_true_eq,A7] at h
 rw [fmtC,AA]
 have h1:=PX h.1.1
 have h2:=PW (c.args.map Es)
 have h3:JL (c.args.map Es)≤(c.args.map Es).length * (6000000+3):=dM (fun x hx=>by
  obtain ⟨t,ht,rfl⟩:=Lw.1 hx
  have:=jA 40 t (h.2 t ht)
  have:=hs t ht
  omega)
 have h4:(c.args.map Es).length * (6000000+3)≤6 * (6000000+3):=Aj _ (by simpa using h.1.2)
 omega
theorem mJ {d:DE} (h:JY d=true) (hs:∀c∈d.cons,∀t∈c.args,t.size≤100000):(Wk d).length≤400000000:=by
 simp only [JY,AR,decide_eq_true_eq,A7] at h
 obtain ⟨⟨⟨⟨⟨h1,h2⟩,h3⟩,h4⟩,h5⟩,h6⟩:=h
 rw [Wk]
 have g1:=PX h1
 have g2:=PW d.vars
 have g3:JL d.vars≤d.vars.length * 27:=dM (fun x hx=>IP (h3 x hx))
 have g4:d.vars.length * 27≤6 * 27:=Aj _ h2
 have g5:=T9 (sep:=[32,124,32]) (by decide) (d.cons.map fmtC)
 have g6:JL (d.cons.map fmtC)≤(d.cons.map fmtC).length * (40000000+3):=dM (fun x hx=>by
  obtain ⟨t,ht,rfl⟩:=Lw.1 hx
  exact rU (h6 t ht) (hs t ht))
 have g7:(d.cons.map fmtC).length * (40000000+3)≤8 * (40000000+3):=Aj _ (by simpa using h5)
 simp only [AA,AG,AI]
 omega
theorem rV {f:FE} (h:Xn f=true) (hb:f.body.nb) (hs:f.body.size≤600):(Z9 f).length≤1000000:=by
 simp only [Xn,AR,decide_eq_true_eq,A7] at h
 rw [Z9]
 have g1:=IP h.1.1
 have g2:=Sz f.params
 have g3:JL f.params≤f.params.length * 27:=dM (fun x hx=>IP (h.2 x hx))
 have g4:f.params.length * 27≤6 * 27:=Aj _ h.1.2
 have g5:=fY f.body hb
 simp only [AA,AG,AI]
 omega
theorem y4 {p:Pg} (h:DM p=true) (hs:∀d∈p.data,∀c∈d.cons,∀t∈c.args,t.size≤100000):(rC p).length≤10000000000:=by
 obtain ⟨⟨h1,h2⟩,h3,h4⟩:=T0 h
 rw [rC,AA]
 have g1:=Wz Wk 400000000 p.data (fun d hd=>mJ (h2 d hd) (hs d hd))
 have g2:=Wz Z9 1000000 p.Zc (fun f hf=>rV (h4 f hf).1 (h4 f hf).2.1 (h4 f hf).2.2)
 have g3:p.data.length * 400000000≤12 * 400000000:=Aj _ h1
 have g4:p.Zc.length * 1000000≤24 * 1000000:=Aj _ h3
 omega
end Go.Ab
namespace Go.Ab
open Go.Proofs
variable {args:List AV} {σ:AK} {K:AV→AK→Prop}
def Up:C:=(.seq (.reg [Qo 17 (.bin .lss (.t 16) (.t 15))] [1,3,14,15,16,17])
 (.seq (.cond (.t 17) .skip
 (.exit 0))
 (.seq (.block 1 (.seq (.reg [Qo 18 (.ix (.t 14) (.t 16) 3),
 Qo 19 (.ld (.t 18) (some 3)),
 Qo 5 (.al [(.d (.str [])),.AO,.AO] false),
 Qz 5 19 3] [1,3,5,14,15,16])
 (.reg [Qm 20 3,
 Qo 21 (.ldl (.t 5) (some 3)),
 Qk 22 42 20 21] [1,3,14,15,16])))
 (.reg [Qp 23 16 1,
 Qm 16 23] [1,3,14,15,16]))))
def Uq:C:=(.seq (.reg [Qo 28 (.bin .lss (.t 27) (.t 26))] [3,25,26,27,28])
 (.seq (.cond (.t 28) .skip
 (.exit 2))
 (.seq (.block 3 (.seq (.reg [Qo 29 (.ix (.t 25) (.t 27) 8),
 Qo 30 (.ld (.t 29) (some 8)),
 Qo 7 (.al [(.d (.str [])),.AO,(.d (.int .i64 0)),(.d (.str [])),(.d (.int .i64 0)),.AO,.AO,.AO] false),
 Qz 7 30 8] [3,7,25,26,27])
 (.seq (.reg [Qm 31 3,
 Qo 32 (.nck (.t 31)),
 Qd 33 32 0,
 Qd 34 7 0,
 Ql 35 34,
 Qo 36 (.bin .add (.c (.d (.str [102,117,110,32]))) (.t 35)),
 Qo 37 (.bin .add (.t 36) (.c (.d (.str [40])))),
 Qd 38 7 1,
 Ql 39 38,
 Qs 40 44 39 [44,32],
 Qo 41 (.bin .add (.t 37) (.t 40)),
 Qo 42 (.bin .add (.t 41) (.c (.d (.str [41,32,61,32])))),
 Qk 43 43 33 42] [3,7,25,26,27])
 (.seq (.reg [Qm 44 3,
 Qd 45 7 2,
 Qo 46 (.ldl (.t 45) (some 6)),
 Qo 47 (.call 45 [(.t 44),(.t 46),(.c (.d (.int .i64 0)))])] [3,25,26,27])
 (.reg [Qm 48 3,
 Qo 49 (.nck (.t 48)),
 Qd 50 49 0,
 Qs 51 43 50 [59,10]] [3,25,26,27])))))
 (.reg [Qp 52 27 1,
 Qm 27 52] [3,25,26,27]))))
def RR:C:=(.seq (.reg [Qo 1 (.box (.t 0) false),
 Qo 2 (.mv (.c (.d (.str []))))] [1])
 (.seq (.seq (.reg [Qo 8 (.ldl (.t 1) (some 2)),
 Qc 9 19 8,
 Qo 10 (.un .not (.t 9))] [1,10])
 (.cond (.t 10) (.seq (.reg [Qo 2 (.mv (.c (.d (.str []))))] [2])
 .ret)
 .skip))
 (.seq (.reg [Qo 11 (.bld [.FN,.AO] []),
 Qo 12 (.ex (.iD 87 2) [(.t 11)]),
 Qm 3 12] [1,3])
 (.seq (.seq (.reg [Qd 13 1 0,
 Ql 14 13,
 Qo 15 (.len (.t 14)),
 Qi 16 0] [1,3,14,15,16])
 (.block 0 (.loop Up)))
 (.seq (.seq (.reg [Qd 24 1 1,
 Ql 25 24,
 Qo 26 (.len (.t 25)),
 Qi 27 0] [3,25,26,27])
 (.block 2 (.loop Uq)))
 (.seq (.reg [Qm 53 3,
 Qo 54 (.nck (.t 53)),
 Qd 55 54 0,
 Qc 56 46 55,
 Qm 2 56] [2])
 .ret))))))
noncomputable def Gm:Cx:=⟨Tryz.prog,17,Tryz.f17,57,[12,100012,300008,300014,300021,300025,300035,300039,300046],[],[.t 2]⟩
theorem MD:Good Gm:=⟨Tryz.func17,by kernel_rfl⟩
theorem XV:Gm.rs=[.t 2]:=rfl
theorem YT (hl:args.length≤57) (h:Run Gm K [.code RR] (Ak args) E σ):AP Tryz.prog 17 args σ K:=
 AT (cx:=Gm) (code:=Tryz.f17.body.getD .skip) MD (by kernel_rfl) Tryz.ntmps17 hl (AW Gm _ (Aw RR) _ [] (by kernel_rfl)) h
def KG:C:=(.seq (.reg [Qo 2 (.box (.t 0) true),
 Qo 3 (.box (.t 1) false)] [2,3])
 (.seq (.reg [Qo 4 (.ld (.t 2) none),
 Qo 5 (.nck (.t 4)),
 Qd 6 5 0,
 Qd 7 3 0,
 Ql 8 7,
 Qo 9 (.bin .add (.c (.d (.str [100,97,116,97,32]))) (.t 8)),
 Qk 10 43 6 9] [2,3])
 (.seq (.reg [Qo 11 (.ld (.t 2) none),
 Qd 12 3 1,
 Ql 13 12,
 Qo 14 (.ld (.t 2) none),
 Qo 15 (.mkf 80 [(.t 14)] []),
 Qo 16 (.call 79 [(.t 11),(.t 13),(.t 15)])] [2,3])
 (.seq (.reg [Qo 17 (.ld (.t 2) none),
 Qo 18 (.nck (.t 17)),
 Qd 19 18 0,
 Qs 20 43 19 [32,61,32]] [2,3])
 (.seq (.reg [Qo 21 (.ld (.t 2) none),
 Qd 22 3 2,
 Ql 23 22,
 Qo 24 (.mkf 82 [] [(.t 2)]),
 Qo 25 (.call 81 [(.t 21),(.c (.d (.str [32,124,32]))),(.t 23),(.t 24)])] [2])
 (.reg [Qo 26 (.ld (.t 2) none),
 Qo 27 (.nck (.t 26)),
 Qd 28 27 0,
 Qs 29 43 28 [59,10]] []))))))
noncomputable def Dk:Cx:=⟨Tryz.prog,42,Tryz.f42,30,[2,300008,300013,300023],[],[]⟩
theorem KS:Good Dk:=⟨Tryz.func42,by kernel_rfl⟩
theorem Qq:Dk.rs=[]:=rfl
theorem Rm (hl:args.length≤30) (h:Run Dk K [.code KG] (Ak args) E σ):AP Tryz.prog 42 args σ K:=
 AT (cx:=Dk) (code:=Tryz.f42.body.getD .skip) KS (by kernel_rfl) Tryz.ntmps42 hl (AW Dk _ (Aw KG) _ [] (by kernel_rfl)) h
def GN:C:=(.seq (.reg [Qi 4 0,
 Qo 5 (.mv (.c .undef))] [0,1])
 (.seq (.reg [Qm 6 0,
 Qc 7 85 6] [0,1])
 (.seq (.reg [Qm 8 0,
 Qm 9 0,
 Qo 10 (.nck (.t 9)),
 Qd 11 10 1,
 Qo 12 (.ld (.t 11) none),
 Qm 13 1,
 Qo 14 (.ex (.apps 5) [(.t 12),(.t 13)]),
 Qo 15 (.nck (.t 8)),
 Qd 16 15 1,
 Qz 16 14 1] [1])
 (.seq (.reg [Qm 17 1,
 Qo 18 (.Lp (.t 17)),
 Qm 4 18,
 Qo 5 (.mv (.c .undef))] [4,5])
 .ret))))
noncomputable def CA:Cx:=⟨Tryz.prog,43,Tryz.f43,19,[],[],[.t 4,.t 5]⟩
theorem GQ:Good CA:=⟨Tryz.func43,by kernel_rfl⟩
theorem Kl:CA.rs=[.t 4,.t 5]:=rfl
theorem L8 (hl:args.length≤19) (h:Run CA K [.code GN] (Ak args) E σ):AP Tryz.prog 43 args σ K:=
 AT (cx:=CA) (code:=Tryz.f43.body.getD .skip) GQ (by kernel_rfl) Tryz.ntmps43 hl (AW CA _ (Aw GN) _ [] (by kernel_rfl)) h
def KH:C:=(.seq (.reg [Qo 4 (.box (.t 1) false)] [0,2,4])
 (.seq (.seq (.reg [Qo 9 (.ldl (.t 4) (some 6)),
 Qc 10 87 9,
 Qm 11 2,
 Qo 12 (.bin .lss (.t 10) (.t 11))] [0,4,12])
 (.cond (.t 12) (.seq (.reg [Qm 13 0,
 Qo 14 (.ldl (.t 4) (some 6)),
 Qk 15 88 13 14] [])
 .ret)
 .skip))
 (.seq (.reg [Qd 16 4 0,
 Ql 17 16] [0,4,17])
 (.block 0 (.seq (.seq (.reg [Qe 22 17 7,
 Qm 21 22] [0,4,17,21])
 (.cond (.t 21) .skip
 (.seq (.reg [Qe 23 17 8,
 Qm 21 23] [0,4,17,21])
 (.cond (.t 21) .skip
 (.seq (.reg [Qe 24 17 9,
 Qm 21 24] [0,4,17,21])
 (.cond (.t 21) .skip
 (.seq (.reg [Qe 25 17 10,
 Qm 21 25] [0,4,17,21])
 (.cond (.t 21) .skip
 (.seq (.reg [Qe 26 17 11,
 Qm 21 26] [0,4,17,21])
 (.cond (.t 21) .skip
 (.reg [Qe 27 17 17,
 Qm 21 27] [0,4,17,21])))))))))))
 (.cond (.t 21) (.reg [Qm 28 0,
 Qo 29 (.ldl (.t 4) (some 6)),
 Qk 30 89 28 29] [])
 (.seq (.reg [Qe 32 17 13,
 Qm 31 32] [0,4,17,31])
 (.cond (.t 31) (.seq (.reg [Qd 34 4 2,
 Ql 35 34,
 Qc 36 90 35,
 Qm 33 36,
 Qo 37 (.ext (.t 33) 0),
 Qo 38 (.ext (.t 33) 1),
 Qm 6 37,
 Qm 7 38] [0,4,6,7])
 (.seq (.reg [Qm 39 0,
 Qd 40 4 4,
 Ql 41 40,
 Qo 42 (.ix (.t 41) (.c (.d (.int .i64 0))) 6),
 Qo 43 (.ld (.t 42) (some 6)),
 Qm 44 6,
 Qo 45 (.call 45 [(.t 39),(.t 43),(.t 44)])] [0,4,7])
 (.seq (.reg [Qm 46 0,
 Qo 47 (.nck (.t 46)),
 Qd 48 47 0,
 Qd 49 4 2,
 Ql 50 49,
 Qc 51 91 50,
 Qo 52 (.bin .add (.c (.d (.str [32]))) (.t 51)),
 Qo 53 (.bin .add (.t 52) (.c (.d (.str [32])))),
 Qk 54 43 48 53] [0,4,7])
 (.reg [Qm 55 0,
 Qd 56 4 4,
 Ql 57 56,
 Qo 58 (.ix (.t 57) (.c (.d (.int .i64 1))) 6),
 Qo 59 (.ld (.t 58) (some 6)),
 Qm 60 7,
 Qo 61 (.call 45 [(.t 55),(.t 59),(.t 60)])] []))))
 (.seq (.reg [Qe 63 17 12,
 Qm 62 63] [0,4,62])
 (.cond (.t 62) (.seq (.seq (.reg [Qd 64 4 4,
 Ql 65 64,
 Qo 66 (.ix (.t 65) (.c (.d (.int .i64 0))) 6),
 Qo 67 (.ld (.t 66) (some 6)),
 Qo 8 (.al [(.d (.int .i64 0)),(.d (.str [])),(.d (.int .i64 0)),.AO,.AO,.AO] false),
 Qz 8 67 6] [0,4,8])
 (.seq (.reg [Qd 68 8 0,
 Ql 69 68,
 Qe 70 69 6,
 Qm 71 70,
 ⟨some 72,.fld (.t 8) 4,some (71,true)⟩,
 ⟨some 73,.ldl (.t 72) none,some (71,true)⟩,
 ⟨some 74,.len (.t 73),some (71,true)⟩,
 ⟨some 75,.bin .eql (.t 74) (.c (.d (.int .i64 0))),some (71,true)⟩,
 Qa 76 71 75] [0,4,8,76])
 (.cond (.t 76) (.reg [Qm 77 0,
 Qo 78 (.ldl (.t 8) (some 6)),
 Qk 79 88 77 78] [0,4])
 (.reg [Qm 80 0,
 Qo 81 (.ldl (.t 8) (some 6)),
 Qo 82 (.call 45 [(.t 80),(.t 81),(.c (.d (.int .i64 4)))])] [0,4]))))
 (.reg [Qm 83 0,
 Qd 84 4 4,
 Ql 85 84,
 Qo 86 (.sls (.t 85) (some (.c (.d (.int .i64 1)))) none none 6),
 Qk 87 92 83 86] []))
 (.reg [Qm 18 0,
 Qo 19 (.ldl (.t 4) (some 6)),
 Qk 20 93 18 19] [])))))))))))
noncomputable def Dl:Cx:=⟨Tryz.prog,45,Tryz.f45,88,[300009,300014,300017,300029,300035,300041,300050,300057,300065,300069,300073,300078,300081,300085,300019],[],[]⟩
theorem Bn:Good Dl:=⟨Tryz.func45,by kernel_rfl⟩
theorem Qt:Dl.rs=[]:=rfl
theorem KZ (hl:args.length≤88) (h:Run Dl K [.code KH] (Ak args) E σ):AP Tryz.prog 45 args σ K:=
 AT (cx:=Dl) (code:=Tryz.f45.body.getD .skip) Bn (by kernel_rfl) Tryz.ntmps45 hl (AW Dl _ (Aw KH) _ [] (by kernel_rfl)) h
def ID:C:=(.seq (.reg [Qo 2 (.mv (.c (.d (.str []))))] [0])
 (.seq (.reg [Qm 3 0,
 Qo 4 (.nck (.t 3)),
 Qd 5 4 1,
 Qo 6 (.ld (.t 5) none),
 Qo 7 (.ex .usd [(.t 6)]),
 Qm 8 0,
 Qo 9 (.nck (.t 8)),
 Qd 10 9 1,
 Qo 11 (.ld (.t 10) none),
 Qo 12 (.len (.t 11)),
 Qo 13 (.ex (.kM 5) [(.t 7),(.t 12)]),
 Qm 2 13] [2])
 .ret))
noncomputable def Ct:Cx:=⟨Tryz.prog,46,Tryz.f46,14,[],[],[.t 2]⟩
theorem IL:Good Ct:=⟨Tryz.func46,by kernel_rfl⟩
theorem Nv:Ct.rs=[.t 2]:=rfl
theorem O1 (hl:args.length≤14) (h:Run Ct K [.code ID] (Ak args) E σ):AP Tryz.prog 46 args σ K:=
 AT (cx:=Ct) (code:=Tryz.f46.body.getD .skip) IL (by kernel_rfl) Tryz.ntmps46 hl (AW Ct _ (Aw ID) _ [] (by kernel_rfl)) h
def II:C:=(.seq (.reg [Qm 6 1,
 Qo 7 (.len (.t 6)),
 Qo 8 (.bin .gtr (.t 7) (.c (.d (.int .i64 0))))] [0,1,2,8])
 (.cond (.t 8) (.seq (.reg [Qm 9 0,
 Qo 10 (.nck (.t 9)),
 Qd 11 10 0,
 Qs 12 43 11 [40]] [0,1,2])
 (.seq (.reg [Qm 13 0,
 Qm 14 1,
 Qm 15 2,
 Qo 16 (.call 134 [(.t 13),(.c (.d (.str [44,32]))),(.t 14),(.t 15)])] [0])
 (.reg [Qm 17 0,
 Qo 18 (.nck (.t 17)),
 Qd 19 18 0,
 Qs 20 43 19 [41]] [])))
 .skip))
noncomputable def Cz:Cx:=⟨Tryz.prog,79,Tryz.f79,21,[],[],[]⟩
theorem F5:Good Cz:=⟨Tryz.func79,by kernel_rfl⟩
theorem OA:Cz.rs=[]:=rfl
theorem O6 (hl:args.length≤21) (h:Run Cz K [.code II] (Ak args) E σ):AP Tryz.prog 79 args σ K:=
 AT (cx:=Cz) (code:=Tryz.f79.body.getD .skip) F5 (by kernel_rfl) Tryz.ntmps79 hl (AW Cz _ (Aw II) _ [] (by kernel_rfl)) h
def KM:C:=(.reg [Qm 4 0,
 Qo 5 (.nck (.t 4)),
 Qd 6 5 0,
 Qm 7 1,
 Qk 8 43 6 7] [])
noncomputable def Dr:Cx:=⟨Tryz.prog,80,Tryz.f80,9,[],[],[]⟩
theorem KW:Good Dr:=⟨Tryz.func80,by kernel_rfl⟩
theorem Qy:Dr.rs=[]:=rfl
theorem Rr (hl:args.length≤9) (h:Run Dr K [.code KM] (Ak args) E σ):AP Tryz.prog 80 args σ K:=
 AT (cx:=Dr) (code:=Tryz.f80.body.getD .skip) KW (by kernel_rfl) Tryz.ntmps80 hl (AW Dr _ (Aw KM) _ [] (by kernel_rfl)) h
def JF:C:=(.seq (.reg [Qo 13 (.bin .lss (.t 12) (.t 11))] [0,1,3,10,11,12,13])
 (.seq (.cond (.t 13) .skip
 (.exit 0))
 (.seq (.block 1 (.seq (.reg [Qm 14 12,
 Qo 15 (.ix (.t 10) (.t 12) 2),
 Qo 16 (.ld (.t 15) (some 2)),
 Qo 9 (.al [(.d (.str [])),.AO] false),
 Qm 8 14,
 Qz 9 16 2] [0,1,3,8,9,10,11,12])
 (.seq (.seq (.reg [Qm 17 8,
 Qo 18 (.bin .gtr (.t 17) (.c (.d (.int .i64 0))))] [0,1,3,9,10,11,12,18])
 (.cond (.t 18) (.reg [Qm 19 0,
 Qo 20 (.nck (.t 19)),
 Qd 21 20 0,
 Qm 22 1,
 Qk 23 43 21 22] [0,1,3,9,10,11,12])
 .skip))
 (.reg [Qm 24 3,
 Qo 25 (.ldl (.t 9) (some 2)),
 Qo 26 (.E2 (.t 24) [(.t 25)])] [0,1,3,10,11,12]))))
 (.reg [Qp 27 12 1,
 Qm 12 27] [0,1,3,10,11,12]))))
def Fl:C:=(.seq (.reg [Qm 10 2,
 Qo 11 (.len (.t 10)),
 Qi 12 0] [0,1,3,10,11,12])
 (.block 0 (.loop JF)))
noncomputable def Bw:Cx:=⟨Tryz.prog,81,Tryz.f81,28,[300025],[],[]⟩
theorem Ft:Good Bw:=⟨Tryz.func81,by kernel_rfl⟩
theorem Jy:Bw.rs=[]:=rfl
theorem Kf (hl:args.length≤28) (h:Run Bw K [.code Fl] (Ak args) E σ):AP Tryz.prog 81 args σ K:=
 AT (cx:=Bw) (code:=Tryz.f81.body.getD .skip) Ft (by kernel_rfl) Tryz.ntmps81 hl (AW Bw _ (Aw Fl) _ [] (by kernel_rfl)) h
def Il:C:=(.seq (.reg [Qo 2 (.box (.t 0) false)] [1,2])
 (.seq (.reg [Qo 3 (.ld (.t 1) none),
 Qo 4 (.nck (.t 3)),
 Qd 5 4 0,
 Qd 6 2 0,
 Ql 7 6,
 Qk 8 43 5 7] [1,2])
 (.reg [Qo 9 (.ld (.t 1) none),
 Qd 10 2 1,
 Ql 11 10,
 Qo 12 (.ld (.t 1) none),
 Qo 13 (.mkf 84 [(.t 12)] []),
 Qo 14 (.call 83 [(.t 9),(.t 11),(.t 13)])] [])))
noncomputable def DI:Cx:=⟨Tryz.prog,82,Tryz.f82,15,[300007,300011],[],[]⟩
theorem Iu:Good DI:=⟨Tryz.func82,by kernel_rfl⟩
theorem Og:DI.rs=[]:=rfl
theorem PO (hl:args.length≤15) (h:Run DI K [.code Il] (Ak args) E σ):AP Tryz.prog 82 args σ K:=
 AT (cx:=DI) (code:=Tryz.f82.body.getD .skip) Iu (by kernel_rfl) Tryz.ntmps82 hl (AW DI _ (Aw Il) _ [] (by kernel_rfl)) h
def Fj:C:=(.seq (.reg [Qm 6 1,
 Qo 7 (.len (.t 6)),
 Qo 8 (.bin .gtr (.t 7) (.c (.d (.int .i64 0))))] [0,1,2,8])
 (.cond (.t 8) (.seq (.reg [Qm 9 0,
 Qo 10 (.nck (.t 9)),
 Qd 11 10 0,
 Qs 12 43 11 [40]] [0,1,2])
 (.seq (.reg [Qm 13 0,
 Qm 14 1,
 Qm 15 2,
 Qo 16 (.call 135 [(.t 13),(.c (.d (.str [44,32]))),(.t 14),(.t 15)])] [0])
 (.reg [Qm 17 0,
 Qo 18 (.nck (.t 17)),
 Qd 19 18 0,
 Qs 20 43 19 [41]] [])))
 .skip))
noncomputable def Bt:Cx:=⟨Tryz.prog,83,Tryz.f83,21,[],[],[]⟩
theorem Dv:Good Bt:=⟨Tryz.func83,by kernel_rfl⟩
theorem Jw:Bt.rs=[]:=rfl
theorem Kd (hl:args.length≤21) (h:Run Bt K [.code Fj] (Ak args) E σ):AP Tryz.prog 83 args σ K:=
 AT (cx:=Bt) (code:=Tryz.f83.body.getD .skip) Dv (by kernel_rfl) Tryz.ntmps83 hl (AW Bt _ (Aw Fj) _ [] (by kernel_rfl)) h
def LN:C:=(.seq (.reg [Qo 3 (.box (.t 1) false)] [0,3])
 (.seq (.reg [Qd 5 3 0,
 Ql 6 5] [0,3,6])
 (.block 0 (.seq (.reg [Qe 20 6 1,
 Qm 19 20] [0,3,6,19])
 (.cond (.t 19) (.reg [Qm 21 0,
 Qo 22 (.nck (.t 21)),
 Qd 23 22 0,
 Qs 24 43 23 [105,110,116]] [])
 (.seq (.reg [Qe 26 6 2,
 Qm 25 26] [0,3,6,25])
 (.cond (.t 25) (.reg [Qm 27 0,
 Qo 28 (.nck (.t 27)),
 Qd 29 28 0,
 Qs 30 43 29 [98,111,111,108]] [])
 (.seq (.reg [Qe 32 6 3,
 Qm 31 32] [0,3,6,31])
 (.cond (.t 31) (.reg [Qm 33 0,
 Qo 34 (.nck (.t 33)),
 Qd 35 34 0,
 Qs 36 43 35 [117,110,105,116]] [])
 (.seq (.reg [Qe 38 6 7,
 Qm 37 38] [0,3,6,37])
 (.cond (.t 37) (.seq (.reg [Qm 39 0,
 Qo 40 (.nck (.t 39)),
 Qd 41 40 0,
 Qs 42 43 41 [97,114,114,97,121]] [0,3])
 (.reg [Qm 43 0,
 Qd 44 3 2,
 Ql 45 44,
 Qm 46 0,
 Qo 47 (.mkf 84 [(.t 46)] []),
 Qo 48 (.call 83 [(.t 43),(.t 45),(.t 47)])] []))
 (.seq (.reg [Qe 50 6 8,
 Qm 49 50] [0,3,6,49])
 (.cond (.t 49) (.seq (.reg [Qm 51 0,
 Qo 52 (.nck (.t 51)),
 Qd 53 52 0,
 Qs 54 43 53 [114,101,102]] [0,3])
 (.reg [Qm 55 0,
 Qd 56 3 2,
 Ql 57 56,
 Qm 58 0,
 Qo 59 (.mkf 84 [(.t 58)] []),
 Qo 60 (.call 83 [(.t 55),(.t 57),(.t 59)])] []))
 (.seq (.reg [Qe 62 6 9,
 Qm 61 62] [0,3,61])
 (.cond (.t 61) (.seq (.reg [Qd 63 3 2,
 Ql 64 63,
 Qo 65 (.len (.t 64)),
 Qo 66 (.bin .sub (.t 65) (.c (.d (.int .i64 1)))),
 Qm 4 66] [0,3,4])
 (.seq (.reg [Qm 67 0,
 Qo 68 (.nck (.t 67)),
 Qd 69 68 0,
 Qs 70 43 69 [102,110,40]] [0,3,4])
 (.seq (.reg [Qm 71 0,
 Qd 72 3 2,
 Ql 73 72,
 Qm 74 4,
 Qo 75 (.sls (.t 73) none (some (.t 74)) none 3),
 Qm 76 0,
 Qo 77 (.mkf 84 [(.t 76)] []),
 Qo 78 (.call 135 [(.t 71),(.c (.d (.str [44,32]))),(.t 75),(.t 77)])] [0,3,4])
 (.seq (.reg [Qm 79 0,
 Qo 80 (.nck (.t 79)),
 Qd 81 80 0,
 Qs 82 43 81 [41,32,45,62,32]] [0,3,4])
 (.reg [Qm 83 0,
 Qd 84 3 2,
 Ql 85 84,
 Qm 86 4,
 Qo 87 (.ix (.t 85) (.t 86) 3),
 Qo 88 (.ld (.t 87) (some 3)),
 Qk 89 84 83 88] [])))))
 (.seq (.reg [Qm 7 0,
 Qo 8 (.nck (.t 7)),
 Qd 9 8 0,
 Qd 10 3 1,
 Ql 11 10,
 Qk 12 43 9 11] [0,3])
 (.reg [Qm 13 0,
 Qd 14 3 2,
 Ql 15 14,
 Qm 16 0,
 Qo 17 (.mkf 84 [(.t 16)] []),
 Qo 18 (.call 83 [(.t 13),(.t 15),(.t 17)])] [])))))))))))))))))
noncomputable def EY:Cx:=⟨Tryz.prog,84,Tryz.f84,90,[300006,300045,300057,300064,300073,300085,300011,300015],[],[]⟩
theorem Bx:Good EY:=⟨Tryz.func84,by kernel_rfl⟩
theorem SI:EY.rs=[]:=rfl
theorem Ss (hl:args.length≤90) (h:Run EY K [.code LN] (Ak args) E σ):AP Tryz.prog 84 args σ K:=
 AT (cx:=EY) (code:=Tryz.f84.body.getD .skip) Bx (by kernel_rfl) Tryz.ntmps84 hl (AW EY _ (Aw LN) _ [] (by kernel_rfl)) h
def S2:C:=(.seq (.reg [Qo 1 (.box (.t 0) false),
 Qi 2 0] [1])
 (.seq (.block 0 (.seq (.seq (.reg [Qd 4 1 0,
 Ql 5 4,
 Qe 6 5 7,
 Qm 3 6] [1,3])
 (.cond (.t 3) .skip
 (.seq (.reg [Qd 7 1 0,
 Ql 8 7,
 Qe 9 8 8,
 Qm 3 9] [1,3])
 (.cond (.t 3) .skip
 (.seq (.reg [Qd 10 1 0,
 Ql 11 10,
 Qe 12 11 9,
 Qm 3 12] [1,3])
 (.cond (.t 3) .skip
 (.seq (.reg [Qd 13 1 0,
 Ql 14 13,
 Qe 15 14 10,
 Qm 3 15] [1,3])
 (.cond (.t 3) .skip
 (.seq (.reg [Qd 16 1 0,
 Ql 17 16,
 Qe 18 17 11,
 Qm 3 18] [1,3])
 (.cond (.t 3) .skip
 (.reg [Qd 19 1 0,
 Ql 20 19,
 Qe 21 20 17,
 Qm 3 21] [1,3])))))))))))
 (.cond (.t 3) (.seq (.reg [Qi 2 0] [2])
 .ret)
 (.seq (.reg [Qd 23 1 0,
 Ql 24 23,
 Qe 25 24 13,
 Qm 22 25] [1,22])
 (.cond (.t 22) (.seq (.reg [Qd 26 1 2,
 Ql 27 26,
 Qc 28 138 27,
 Qm 2 28] [2])
 .ret)
 (.seq (.reg [Qd 30 1 0,
 Ql 31 30,
 Qe 32 31 12,
 Qm 29 32] [29])
 (.cond (.t 29) (.seq (.reg [Qi 2 4] [2])
 .ret)
 .skip)))))))
 (.seq (.reg [Qi 2 5] [2])
 .ret)))
noncomputable def Hg:Cx:=⟨Tryz.prog,87,Tryz.f87,33,[300005,300008,300011,300014,300017,300020,300024,300027,300031],[],[.t 2]⟩
theorem HX:Good Hg:=⟨Tryz.func87,by kernel_rfl⟩
theorem Ya:Hg.rs=[.t 2]:=rfl
theorem Zn (hl:args.length≤33) (h:Run Hg K [.code S2] (Ak args) E σ):AP Tryz.prog 87 args σ K:=
 AT (cx:=Hg) (code:=Tryz.f87.body.getD .skip) HX (by kernel_rfl) Tryz.ntmps87 hl (AW Hg _ (Aw S2) _ [] (by kernel_rfl)) h
def Fk:C:=(.seq (.reg [Qo 3 (.box (.t 1) false)] [0,3])
 (.seq (.reg [Qm 4 0,
 Qo 5 (.nck (.t 4)),
 Qd 6 5 0,
 Qs 7 43 6 [40]] [0,3])
 (.seq (.reg [Qm 8 0,
 Qo 9 (.ldl (.t 3) (some 6)),
 Qk 10 139 8 9] [0])
 (.reg [Qm 11 0,
 Qo 12 (.nck (.t 11)),
 Qd 13 12 0,
 Qs 14 43 13 [41]] []))))
noncomputable def Bv:Cx:=⟨Tryz.prog,88,Tryz.f88,15,[300009],[],[]⟩
theorem Fq:Good Bv:=⟨Tryz.func88,by kernel_rfl⟩
theorem Jx:Bv.rs=[]:=rfl
theorem Ke (hl:args.length≤15) (h:Run Bv K [.code Fk] (Ak args) E σ):AP Tryz.prog 88 args σ K:=
 AT (cx:=Bv) (code:=Tryz.f88.body.getD .skip) Fq (by kernel_rfl) Tryz.ntmps88 hl (AW Bv _ (Aw Fk) _ [] (by kernel_rfl)) h
def Rf:C:=(.seq (.reg [Qo 2 (.box (.t 0) true),
 Qo 3 (.box (.t 1) false)] [2,3])
 (.seq (.reg [Qd 4 3 0,
 Ql 5 4] [2,3,5])
 (.block 0 (.seq (.seq (.reg [Qe 7 5 7,
 Qm 6 7] [2,3,5,6])
 (.cond (.t 6) .skip
 (.reg [Qe 8 5 8,
 Qm 6 8] [2,3,5,6])))
 (.cond (.t 6) (.seq (.reg [Qo 9 (.ld (.t 2) none),
 Qo 10 (.nck (.t 9)),
 Qd 11 10 0,
 Qs 12 43 11 [108,101,116,32]] [2,3])
 (.seq (.seq (.reg [Qd 13 3 0,
 Ql 14 13,
 Qe 15 14 7] [2,3,15])
 (.cond (.t 15) (.reg [Qo 16 (.ld (.t 2) none),
 Qd 17 3 1,
 Ql 18 17,
 Qk 19 140 16 18] [2,3])
 (.reg [Qo 20 (.ld (.t 2) none),
 Qd 21 3 3,
 Ql 22 21,
 Qo 23 (.ld (.t 2) none),
 Qo 24 (.mkf 140 [(.t 23)] []),
 Qo 25 (.call 79 [(.t 20),(.t 22),(.t 24)])] [2,3])))
 (.reg [Qo 26 (.ld (.t 2) none),
 Qd 27 3 4,
 Ql 28 27,
 Qo 29 (.ix (.t 28) (.c (.d (.int .i64 0))) 6),
 Qo 30 (.ld (.t 29) (some 6)),
 Qd 31 3 4,
 Ql 32 31,
 Qo 33 (.ix (.t 32) (.c (.d (.int .i64 1))) 6),
 Qo 34 (.ld (.t 33) (some 6)),
 Qo 35 (.call 141 [(.t 26),(.c (.d (.str [32,61,32]))),(.t 30),(.c (.d (.str [32,105,110,32]))),(.t 34),(.c (.d (.str [])))])] [])))
 (.seq (.reg [Qe 37 5 9,
 Qm 36 37] [2,3,5,36])
 (.cond (.t 36) (.seq (.reg [Qo 38 (.ld (.t 2) none),
 Qd 39 3 4,
 Ql 40 39,
 Qo 41 (.ix (.t 40) (.c (.d (.int .i64 0))) 6),
 Qo 42 (.ld (.t 41) (some 6)),
 Qd 43 3 4,
 Ql 44 43,
 Qo 45 (.ix (.t 44) (.c (.d (.int .i64 1))) 6),
 Qo 46 (.ld (.t 45) (some 6)),
 Qo 47 (.call 141 [(.t 38),(.c (.d (.str [105,102,32]))),(.t 42),(.c (.d (.str [32,116,104,101,110,32]))),(.t 46),(.c (.d (.str [32,101,108,115,101,32])))])] [2,3])
 (.reg [Qo 48 (.ld (.t 2) none),
 Qd 49 3 4,
 Ql 50 49,
 Qo 51 (.ix (.t 50) (.c (.d (.int .i64 2))) 6),
 Qo 52 (.ld (.t 51) (some 6)),
 Qk 53 139 48 52] []))
 (.seq (.reg [Qe 55 5 10,
 Qm 54 55] [2,3,5,54])
 (.cond (.t 54) (.seq (.reg [Qo 56 (.ld (.t 2) none),
 Qo 57 (.nck (.t 56)),
 Qd 58 57 0,
 Qs 59 43 58 [109,97,116,99,104,32]] [2,3])
 (.seq (.reg [Qo 60 (.ld (.t 2) none),
 Qd 61 3 4,
 Ql 62 61,
 Qo 63 (.ix (.t 62) (.c (.d (.int .i64 0))) 6),
 Qo 64 (.ld (.t 63) (some 6)),
 Qk 65 139 60 64] [2,3])
 (.seq (.reg [Qo 66 (.ld (.t 2) none),
 Qo 67 (.nck (.t 66)),
 Qd 68 67 0,
 Qs 69 43 68 [32,119,105,116,104,32]] [2,3])
 (.seq (.reg [Qo 70 (.ld (.t 2) none),
 Qd 71 3 5,
 Ql 72 71,
 Qo 73 (.mkf 143 [] [(.t 2)]),
 Qo 74 (.call 142 [(.t 70),(.c (.d (.str [32,124,32]))),(.t 72),(.t 73)])] [2])
 (.reg [Qo 75 (.ld (.t 2) none),
 Qo 76 (.nck (.t 75)),
 Qd 77 76 0,
 Qs 78 43 77 [32,101,110,100]] [])))))
 (.seq (.reg [Qe 80 5 11,
 Qm 79 80] [2,3,5,79])
 (.cond (.t 79) (.seq (.Q8 (.one (Qd 84 3 3)
 (.one (Ql 85 84)
 (.alt (Qo 81 (.ld (.t 2) none))
 (.one (Qo 82 (.nck (.t 81)))
 (.one (Qd 83 82 0)
 (.one (Qs 86 44 85 [44,32])
 (.one (Qo 87 (.bin .add (.c (.d (.str [102,110,40]))) (.t 86)))
 (.one (Qo 88 (.bin .add (.t 87) (.c (.d (.str [41,32,45,62,32])))))
 (.one (Qk 89 43 83 88)
 .done))))))
 (.alt (Qs 86 44 85 [44,32])
 (.one (Qo 81 (.ld (.t 2) none))
 (.one (Qo 82 (.nck (.t 81)))
 (.one (Qd 83 82 0)
 (.one (Qo 87 (.bin .add (.c (.d (.str [102,110,40]))) (.t 86)))
 (.one (Qo 88 (.bin .add (.t 87) (.c (.d (.str [41,32,45,62,32])))))
 (.one (Qk 89 43 83 88)
 .done))))))
 .done)))) [2,3])
 (.reg [Qo 90 (.ld (.t 2) none),
 Qd 91 3 4,
 Ql 92 91,
 Qo 93 (.ix (.t 92) (.c (.d (.int .i64 0))) 6),
 Qo 94 (.ld (.t 93) (some 6)),
 Qk 95 139 90 94] []))
 (.seq (.reg [Qe 97 5 17,
 Qm 96 97] [2,3,96])
 (.cond (.t 96) (.seq (.reg [Qo 98 (.ld (.t 2) none),
 Qo 99 (.nck (.t 98)),
 Qd 100 99 0,
 Qs 101 43 100 [116,114,121,32]] [2,3])
 (.seq (.reg [Qo 102 (.ld (.t 2) none),
 Qd 103 3 4,
 Ql 104 103,
 Qo 105 (.ix (.t 104) (.c (.d (.int .i64 0))) 6),
 Qo 106 (.ld (.t 105) (some 6)),
 Qk 107 139 102 106] [2,3])
 (.seq (.reg [Qo 108 (.ld (.t 2) none),
 Qo 109 (.nck (.t 108)),
 Qd 110 109 0,
 Qs 111 43 110 [32,99,97,116,99,104,32]] [2,3])
 (.seq (.reg [Qo 112 (.ld (.t 2) none),
 Qd 113 3 1,
 Ql 114 113,
 Qk 115 140 112 114] [2,3])
 (.seq (.reg [Qo 116 (.ld (.t 2) none),
 Qo 117 (.nck (.t 116)),
 Qd 118 117 0,
 Qs 119 43 118 [32,45,62,32]] [2,3])
 (.seq (.reg [Qo 120 (.ld (.t 2) none),
 Qd 121 3 4,
 Ql 122 121,
 Qo 123 (.ix (.t 122) (.c (.d (.int .i64 1))) 6),
 Qo 124 (.ld (.t 123) (some 6)),
 Qk 125 139 120 124] [2])
 (.reg [Qo 126 (.ld (.t 2) none),
 Qo 127 (.nck (.t 126)),
 Qd 128 127 0,
 Qs 129 43 128 [32,101,110,100]] [])))))))
 .skip)))))))))))))
def SM:List (List Nat×PT):=[([2,3],.done),([2,3,5],.done),([2,3,5,6],.done),([2,3,5,6],.done),([2,3],.done),([2,3,15],.done),([2,3],.done),([2,3],.done),([],.done),([2,3,5,36],.done),([2,3],.done),([],.done),([2,3,5,54],.done),([2,3],.done),([2,3],.done),([2,3],.done),([2],.done),([],.done),([2,3,5,79],.done),([2,3],(.one 3 (.one 4 (.alt 0 (.one 1 (.one 2 (.one 5 (.one 6 (.one 7 (.one 8 .done)))))) (.alt 5 (.one 0 (.one 1 (.one 2 (.one 6 (.one 7 (.one 8 .done)))))) .done))))),([],.done),([2,3,96],.done),([2,3],.done),([2,3],.done),([2,3],.done),([2,3],.done),([2,3],.done),([2],.done),([],.done)]
noncomputable def Dn:Cx:=⟨Tryz.prog,89,Tryz.f89,130,[2,300005,300014,300018,300022,300028,300032,300040,300044,300050,300062,300072,300085,300092,300104,300114,300122],[],[]⟩
theorem CQ:Good Dn:=⟨Tryz.func89,by kernel_rfl⟩
theorem Qv:Dn.rs=[]:=rfl
theorem Ro (hl:args.length≤130) (h:Run Dn K [.code Rf] (Ak args) E σ):AP Tryz.prog 89 args σ K:=
 AT (cx:=Dn) (code:=Tryz.f89.body.getD .skip) CQ (by kernel_rfl) Tryz.ntmps89 hl (AW Dn _ SM _ [] (by kernel_rfl)) h
def JP:C:=(.seq (.reg [Qi 2 0,
 Qi 3 0] [0])
 (.seq (.reg [Qm 5 0,
 Qc 6 138 5,
 Qm 4 6] [4])
 (.seq (.seq (.reg [Qm 7 4,
 Qe 8 7 1] [4,8])
 (.cond (.t 8) (.seq (.reg [Qi 2 2,
 Qi 3 2] [2,3])
 .ret)
 .skip))
 (.seq (.reg [Qm 9 4,
 Qm 10 4,
 Qp 11 10 1,
 Qm 2 9,
 Qm 3 11] [2,3])
 .ret))))
noncomputable def D0:Cx:=⟨Tryz.prog,90,Tryz.f90,12,[],[],[.t 2,.t 3]⟩
theorem J6:Good D0:=⟨Tryz.func90,by kernel_rfl⟩
theorem P7:D0.rs=[.t 2,.t 3]:=rfl
theorem QS (hl:args.length≤12) (h:Run D0 K [.code JP] (Ak args) E σ):AP Tryz.prog 90 args σ K:=
 AT (cx:=D0) (code:=Tryz.f90.body.getD .skip) J6 (by kernel_rfl) Tryz.ntmps90 hl (AW D0 _ (Aw JP) _ [] (by kernel_rfl)) h
def KI:C:=(.seq (.reg [Qm 4 0,
 Qo 5 (.nck (.t 4)),
 Qd 6 5 0,
 Qs 7 43 6 [40]] [0,1])
 (.seq (.reg [Qm 8 0,
 Qm 9 1,
 Qm 10 0,
 Qo 11 (.mkf 139 [(.t 10)] []),
 Qo 12 (.call 144 [(.t 8),(.c (.d (.str [44,32]))),(.t 9),(.t 11)])] [0])
 (.reg [Qm 13 0,
 Qo 14 (.nck (.t 13)),
 Qd 15 14 0,
 Qs 16 43 15 [41]] [])))
noncomputable def Dm:Cx:=⟨Tryz.prog,92,Tryz.f92,17,[],[],[]⟩
theorem KU:Good Dm:=⟨Tryz.func92,by kernel_rfl⟩
theorem Qu:Dm.rs=[]:=rfl
theorem Rn (hl:args.length≤17) (h:Run Dm K [.code KI] (Ak args) E σ):AP Tryz.prog 92 args σ K:=
 AT (cx:=Dm) (code:=Tryz.f92.body.getD .skip) KU (by kernel_rfl) Tryz.ntmps92 hl (AW Dm _ (Aw KI) _ [] (by kernel_rfl)) h
def KL:C:=(.seq (.reg [Qo 3 (.box (.t 1) false)] [0,3])
 (.seq (.reg [Qd 6 3 0,
 Ql 7 6] [0,3,7])
 (.block 0 (.seq (.reg [Qe 21 7 1,
 Qm 20 21] [0,3,7,20])
 (.cond (.t 20) (.reg [Qm 22 0,
 Qo 23 (.nck (.t 22)),
 Qd 24 23 0,
 Qs 25 43 24 [40,41]] [])
 (.seq (.reg [Qe 27 7 2,
 Qm 26 27] [0,3,7,26])
 (.cond (.t 26) (.reg [Qm 28 0,
 Qo 29 (.nck (.t 28)),
 Qd 30 29 0,
 Qd 31 3 2,
 Ql 32 31,
 Qe 33 32 1,
 Qc 34 145 33,
 Qk 35 43 30 34] [])
 (.seq (.reg [Qe 37 7 3,
 Qm 36 37] [0,3,7,36])
 (.cond (.t 36) (.reg [Qm 38 0,
 Qo 39 (.nck (.t 38)),
 Qd 40 39 0,
 Qd 41 3 2,
 Ql 42 41,
 Qo 43 (.call 146 [(.t 42),(.c (.d (.int .i64 10)))]),
 Qk 44 43 40 43] [])
 (.seq (.reg [Qe 46 7 5,
 Qm 45 46] [0,3,7,45])
 (.cond (.t 45) (.reg [Qm 47 0,
 Qd 48 3 4,
 Ql 49 48,
 Qk 50 92 47 49] [])
 (.seq (.reg [Qe 52 7 14,
 Qm 51 52] [0,3,7,51])
 (.cond (.t 51) (.seq (.reg [Qd 54 3 2,
 Ql 55 54,
 Qc 56 147 55,
 Qm 53 56,
 Qo 57 (.ext (.t 53) 0),
 Qo 58 (.ext (.t 53) 1),
 Qm 4 57,
 Qm 5 58] [0,3,4])
 (.seq (.reg [Qm 59 0,
 Qo 60 (.nck (.t 59)),
 Qd 61 60 0,
 Qm 62 4,
 Qk 63 43 61 62] [0,3])
 (.reg [Qm 64 0,
 Qd 65 3 4,
 Ql 66 65,
 Qk 67 92 64 66] [])))
 (.seq (.reg [Qe 69 7 16,
 Qm 68 69] [0,3,7,68])
 (.cond (.t 68) (.seq (.reg [Qm 70 0,
 Qo 71 (.nck (.t 70)),
 Qd 72 71 0,
 Qs 73 43 72 [114,97,105,115,101]] [0,3])
 (.reg [Qm 74 0,
 Qd 75 3 4,
 Ql 76 75,
 Qk 77 92 74 76] []))
 (.seq (.reg [Qe 79 7 15,
 Qm 78 79] [0,3,78])
 (.cond (.t 78) (.reg [Qm 80 0,
 Qo 81 (.nck (.t 80)),
 Qd 82 81 0,
 Qd 83 3 2,
 Ql 84 83,
 Qo 85 (.call 146 [(.t 84),(.c (.d (.int .i64 10)))]),
 Qo 86 (.bin .add (.c (.d (.str [116,105,99,107,40]))) (.t 85)),
 Qo 87 (.bin .add (.t 86) (.c (.d (.str [41])))),
 Qk 88 43 82 87] [])
 (.seq (.reg [Qm 8 0,
 Qo 9 (.nck (.t 8)),
 Qd 10 9 0,
 Qd 11 3 1,
 Ql 12 11,
 Qk 13 43 10 12] [0,3])
 (.reg [Qm 14 0,
 Qd 15 3 4,
 Ql 16 15,
 Qm 17 0,
 Qo 18 (.mkf 139 [(.t 17)] []),
 Qo 19 (.call 148 [(.t 14),(.t 16),(.t 18)])] [])))))))))))))))))))
noncomputable def Dq:Cx:=⟨Tryz.prog,93,Tryz.f93,89,[300007,300032,300042,300049,300055,300066,300076,300084,300012,300016],[],[]⟩
theorem BQ:Good Dq:=⟨Tryz.func93,by kernel_rfl⟩
theorem Qx:Dq.rs=[]:=rfl
theorem Rq (hl:args.length≤89) (h:Run Dq K [.code KL] (Ak args) E σ):AP Tryz.prog 93 args σ K:=
 AT (cx:=Dq) (code:=Tryz.f93.body.getD .skip) BQ (by kernel_rfl) Tryz.ntmps93 hl (AW Dq _ (Aw KL) _ [] (by kernel_rfl)) h
def MC:C:=(.seq (.reg [Qo 13 (.bin .lss (.t 12) (.t 11))] [0,1,3,10,11,12,13])
 (.seq (.cond (.t 13) .skip
 (.exit 0))
 (.seq (.block 1 (.seq (.reg [Qm 14 12,
 Qo 15 (.ix (.t 10) (.t 12) 1),
 Qo 16 (.ld (.t 15) none),
 Qm 8 14,
 Qm 9 16] [0,1,3,8,9,10,11,12])
 (.seq (.seq (.reg [Qm 17 8,
 Qo 18 (.bin .gtr (.t 17) (.c (.d (.int .i64 0))))] [0,1,3,9,10,11,12,18])
 (.cond (.t 18) (.reg [Qm 19 0,
 Qo 20 (.nck (.t 19)),
 Qd 21 20 0,
 Qm 22 1,
 Qk 23 43 21 22] [0,1,3,9,10,11,12])
 .skip))
 (.reg [Qm 24 3,
 Qm 25 9,
 Qo 26 (.E2 (.t 24) [(.t 25)])] [0,1,3,10,11,12]))))
 (.reg [Qp 27 12 1,
 Qm 12 27] [0,1,3,10,11,12]))))
def Hr:C:=(.seq (.reg [Qm 10 2,
 Qo 11 (.len (.t 10)),
 Qi 12 0] [0,1,3,10,11,12])
 (.block 0 (.loop MC)))
noncomputable def Cl:Cx:=⟨Tryz.prog,134,Tryz.f134,28,[],[],[]⟩
theorem Hu:Good Cl:=⟨Tryz.func134,by kernel_rfl⟩
theorem Nc:Cl.rs=[]:=rfl
theorem Nt (hl:args.length≤28) (h:Run Cl K [.code Hr] (Ak args) E σ):AP Tryz.prog 134 args σ K:=
 AT (cx:=Cl) (code:=Tryz.f134.body.getD .skip) Hu (by kernel_rfl) Tryz.ntmps134 hl (AW Cl _ (Aw Hr) _ [] (by kernel_rfl)) h
def I9:C:=(.seq (.reg [Qo 13 (.bin .lss (.t 12) (.t 11))] [0,1,3,10,11,12,13])
 (.seq (.cond (.t 13) .skip
 (.exit 0))
 (.seq (.block 1 (.seq (.reg [Qm 14 12,
 Qo 15 (.ix (.t 10) (.t 12) 3),
 Qo 16 (.ld (.t 15) (some 3)),
 Qo 9 (.al [(.d (.int .i64 0)),(.d (.str [])),.AO] false),
 Qm 8 14,
 Qz 9 16 3] [0,1,3,8,9,10,11,12])
 (.seq (.seq (.reg [Qm 17 8,
 Qo 18 (.bin .gtr (.t 17) (.c (.d (.int .i64 0))))] [0,1,3,9,10,11,12,18])
 (.cond (.t 18) (.reg [Qm 19 0,
 Qo 20 (.nck (.t 19)),
 Qd 21 20 0,
 Qm 22 1,
 Qk 23 43 21 22] [0,1,3,9,10,11,12])
 .skip))
 (.reg [Qm 24 3,
 Qo 25 (.ldl (.t 9) (some 3)),
 Qo 26 (.E2 (.t 24) [(.t 25)])] [0,1,3,10,11,12]))))
 (.reg [Qp 27 12 1,
 Qm 12 27] [0,1,3,10,11,12]))))
def Fa:C:=(.seq (.reg [Qm 10 2,
 Qo 11 (.len (.t 10)),
 Qi 12 0] [0,1,3,10,11,12])
 (.block 0 (.loop I9)))
noncomputable def Bm:Cx:=⟨Tryz.prog,135,Tryz.f135,28,[300025],[],[]⟩
theorem Fb:Good Bm:=⟨Tryz.func135,by kernel_rfl⟩
theorem Jk:Bm.rs=[]:=rfl
theorem Jt (hl:args.length≤28) (h:Run Bm K [.code Fa] (Ak args) E σ):AP Tryz.prog 135 args σ K:=
 AT (cx:=Bm) (code:=Tryz.f135.body.getD .skip) Fb (by kernel_rfl) Tryz.ntmps135 hl (AW Bm _ (Aw Fa) _ [] (by kernel_rfl)) h
def KJ:C:=(.seq (.reg [Qo 3 (.box (.t 1) false)] [0,3])
 (.reg [Qm 4 0,
 Qo 5 (.ldl (.t 3) (some 6)),
 Qo 6 (.call 45 [(.t 4),(.t 5),(.c (.d (.int .i64 0)))])] []))
noncomputable def Dp:Cx:=⟨Tryz.prog,139,Tryz.f139,7,[300005],[],[]⟩
theorem KV:Good Dp:=⟨Tryz.func139,by kernel_rfl⟩
theorem Qw:Dp.rs=[]:=rfl
theorem Rp (hl:args.length≤7) (h:Run Dp K [.code KJ] (Ak args) E σ):AP Tryz.prog 139 args σ K:=
 AT (cx:=Dp) (code:=Tryz.f139.body.getD .skip) KV (by kernel_rfl) Tryz.ntmps139 hl (AW Dp _ (Aw KJ) _ [] (by kernel_rfl)) h
def KF:C:=(.seq (.seq (.reg [Qm 4 1,
 Qo 5 (.bin .eql (.t 4) (.c (.d (.str []))))] [0,1,5])
 (.cond (.t 5) (.reg [Qo 1 (.mv (.c (.d (.str [95]))))] [0,1])
 .skip))
 (.reg [Qm 6 0,
 Qo 7 (.nck (.t 6)),
 Qd 8 7 0,
 Qm 9 1,
 Qk 10 43 8 9] []))
noncomputable def Dj:Cx:=⟨Tryz.prog,140,Tryz.f140,11,[],[],[]⟩
theorem Gx:Good Dj:=⟨Tryz.func140,by kernel_rfl⟩
theorem Qn:Dj.rs=[]:=rfl
theorem Rl (hl:args.length≤11) (h:Run Dj K [.code KF] (Ak args) E σ):AP Tryz.prog 140 args σ K:=
 AT (cx:=Dj) (code:=Tryz.f140.body.getD .skip) Gx (by kernel_rfl) Tryz.ntmps140 hl (AW Dj _ (Aw KF) _ [] (by kernel_rfl)) h
def JW:C:=(.seq (.reg [Qo 8 (.box (.t 2) false),
 Qo 10 (.box (.t 4) false)] [0,1,3,5,8,10])
 (.seq (.reg [Qm 12 0,
 Qo 13 (.nck (.t 12)),
 Qd 14 13 0,
 Qm 15 1,
 Qk 16 43 14 15] [0,3,5,8,10])
 (.seq (.reg [Qm 17 0,
 Qo 18 (.ldl (.t 8) (some 6)),
 Qk 19 139 17 18] [0,3,5,10])
 (.seq (.reg [Qm 20 0,
 Qo 21 (.nck (.t 20)),
 Qd 22 21 0,
 Qm 23 3,
 Qk 24 43 22 23] [0,5,10])
 (.seq (.reg [Qm 25 0,
 Qo 26 (.ldl (.t 10) (some 6)),
 Qk 27 139 25 26] [0,5])
 (.reg [Qm 28 0,
 Qo 29 (.nck (.t 28)),
 Qd 30 29 0,
 Qm 31 5,
 Qk 32 43 30 31] []))))))
noncomputable def D6:Cx:=⟨Tryz.prog,141,Tryz.f141,33,[300018,300026],[],[]⟩
theorem J8:Good D6:=⟨Tryz.func141,by kernel_rfl⟩
theorem Pe:D6.rs=[]:=rfl
theorem QY (hl:args.length≤33) (h:Run D6 K [.code JW] (Ak args) E σ):AP Tryz.prog 141 args σ K:=
 AT (cx:=D6) (code:=Tryz.f141.body.getD .skip) J8 (by kernel_rfl) Tryz.ntmps141 hl (AW D6 _ (Aw JW) _ [] (by kernel_rfl)) h
def LO:C:=(.seq (.reg [Qo 13 (.bin .lss (.t 12) (.t 11))] [0,1,3,10,11,12,13])
 (.seq (.cond (.t 13) .skip
 (.exit 0))
 (.seq (.block 1 (.seq (.reg [Qm 14 12,
 Qo 15 (.ix (.t 10) (.t 12) 8),
 Qo 16 (.ld (.t 15) (some 8)),
 Qo 9 (.al [(.d (.str [])),.AO,(.d (.int .i64 0)),(.d (.str [])),(.d (.int .i64 0)),.AO,.AO,.AO] false),
 Qm 8 14,
 Qz 9 16 8] [0,1,3,8,9,10,11,12])
 (.seq (.seq (.reg [Qm 17 8,
 Qo 18 (.bin .gtr (.t 17) (.c (.d (.int .i64 0))))] [0,1,3,9,10,11,12,18])
 (.cond (.t 18) (.reg [Qm 19 0,
 Qo 20 (.nck (.t 19)),
 Qd 21 20 0,
 Qm 22 1,
 Qk 23 43 21 22] [0,1,3,9,10,11,12])
 .skip))
 (.reg [Qm 24 3,
 Qo 25 (.ldl (.t 9) (some 8)),
 Qo 26 (.E2 (.t 24) [(.t 25)])] [0,1,3,10,11,12]))))
 (.reg [Qp 27 12 1,
 Qm 12 27] [0,1,3,10,11,12]))))
def HQ:C:=(.seq (.reg [Qm 10 2,
 Qo 11 (.len (.t 10)),
 Qi 12 0] [0,1,3,10,11,12])
 (.block 0 (.loop LO)))
noncomputable def Cb:Cx:=⟨Tryz.prog,142,Tryz.f142,28,[300025],[],[]⟩
theorem H4:Good Cb:=⟨Tryz.func142,by kernel_rfl⟩
theorem Mu:Cb.rs=[]:=rfl
theorem NZ (hl:args.length≤28) (h:Run Cb K [.code HQ] (Ak args) E σ):AP Tryz.prog 142 args σ K:=
 AT (cx:=Cb) (code:=Tryz.f142.body.getD .skip) H4 (by kernel_rfl) Tryz.ntmps142 hl (AW Cb _ (Aw HQ) _ [] (by kernel_rfl)) h
def Im:C:=(.seq (.reg [Qo 2 (.box (.t 0) false)] [1,2])
 (.seq (.reg [Qo 3 (.ld (.t 1) none),
 Qo 4 (.nck (.t 3)),
 Qd 5 4 0,
 Qd 6 2 0,
 Ql 7 6,
 Qk 8 43 5 7] [1,2])
 (.seq (.reg [Qo 9 (.ld (.t 1) none),
 Qd 10 2 1,
 Ql 11 10,
 Qo 12 (.ld (.t 1) none),
 Qo 13 (.mkf 140 [(.t 12)] []),
 Qo 14 (.call 79 [(.t 9),(.t 11),(.t 13)])] [1,2])
 (.seq (.reg [Qo 15 (.ld (.t 1) none),
 Qo 16 (.nck (.t 15)),
 Qd 17 16 0,
 Qs 18 43 17 [32,45,62,32]] [1,2])
 (.reg [Qo 19 (.ld (.t 1) none),
 Qd 20 2 2,
 Qo 21 (.ldl (.t 20) (some 6)),
 Qk 22 139 19 21] [])))))
noncomputable def DJ:Cx:=⟨Tryz.prog,143,Tryz.f143,23,[300007,300011,300021],[],[]⟩
theorem Iv:Good DJ:=⟨Tryz.func143,by kernel_rfl⟩
theorem Oh:DJ.rs=[]:=rfl
theorem PQ (hl:args.length≤23) (h:Run DJ K [.code Im] (Ak args) E σ):AP Tryz.prog 143 args σ K:=
 AT (cx:=DJ) (code:=Tryz.f143.body.getD .skip) Iv (by kernel_rfl) Tryz.ntmps143 hl (AW DJ _ (Aw Im) _ [] (by kernel_rfl)) h
def K4:C:=(.seq (.reg [Qo 13 (.bin .lss (.t 12) (.t 11))] [0,1,3,10,11,12,13])
 (.seq (.cond (.t 13) .skip
 (.exit 0))
 (.seq (.block 1 (.seq (.reg [Qm 14 12,
 Qo 15 (.ix (.t 10) (.t 12) 6),
 Qo 16 (.ld (.t 15) (some 6)),
 Qo 9 (.al [(.d (.int .i64 0)),(.d (.str [])),(.d (.int .i64 0)),.AO,.AO,.AO] false),
 Qm 8 14,
 Qz 9 16 6] [0,1,3,8,9,10,11,12])
 (.seq (.seq (.reg [Qm 17 8,
 Qo 18 (.bin .gtr (.t 17) (.c (.d (.int .i64 0))))] [0,1,3,9,10,11,12,18])
 (.cond (.t 18) (.reg [Qm 19 0,
 Qo 20 (.nck (.t 19)),
 Qd 21 20 0,
 Qm 22 1,
 Qk 23 43 21 22] [0,1,3,9,10,11,12])
 .skip))
 (.reg [Qm 24 3,
 Qo 25 (.ldl (.t 9) (some 6)),
 Qo 26 (.E2 (.t 24) [(.t 25)])] [0,1,3,10,11,12]))))
 (.reg [Qp 27 12 1,
 Qm 12 27] [0,1,3,10,11,12]))))
def HC:C:=(.seq (.reg [Qm 10 2,
 Qo 11 (.len (.t 10)),
 Qi 12 0] [0,1,3,10,11,12])
 (.block 0 (.loop K4)))
noncomputable def CY:Cx:=⟨Tryz.prog,144,Tryz.f144,28,[300025],[],[]⟩
theorem HG:Good CY:=⟨Tryz.func144,by kernel_rfl⟩
theorem MN:CY.rs=[]:=rfl
theorem Mk (hl:args.length≤28) (h:Run CY K [.code HC] (Ak args) E σ):AP Tryz.prog 144 args σ K:=
 AT (cx:=CY) (code:=Tryz.f144.body.getD .skip) HG (by kernel_rfl) Tryz.ntmps144 hl (AW CY _ (Aw HC) _ [] (by kernel_rfl)) h
def HP:C:=(.seq (.reg [Qm 6 1,
 Qo 7 (.len (.t 6)),
 Qo 8 (.bin .gtr (.t 7) (.c (.d (.int .i64 0))))] [0,1,2,8])
 (.cond (.t 8) (.seq (.reg [Qm 9 0,
 Qo 10 (.nck (.t 9)),
 Qd 11 10 0,
 Qs 12 43 11 [40]] [0,1,2])
 (.seq (.reg [Qm 13 0,
 Qm 14 1,
 Qm 15 2,
 Qo 16 (.call 144 [(.t 13),(.c (.d (.str [44,32]))),(.t 14),(.t 15)])] [0])
 (.reg [Qm 17 0,
 Qo 18 (.nck (.t 17)),
 Qd 19 18 0,
 Qs 20 43 19 [41]] [])))
 .skip))
noncomputable def Ca:Cx:=⟨Tryz.prog,148,Tryz.f148,21,[],[],[]⟩
theorem Ev:Good Ca:=⟨Tryz.func148,by kernel_rfl⟩
theorem Mt:Ca.rs=[]:=rfl
theorem NY (hl:args.length≤21) (h:Run Ca K [.code HP] (Ak args) E σ):AP Tryz.prog 148 args σ K:=
 AT (cx:=Ca) (code:=Tryz.f148.body.getD .skip) Ev (by kernel_rfl) Tryz.ntmps148 hl (AW Ca _ (Aw HP) _ [] (by kernel_rfl)) h
attribute [go_sem] XV Qq Kl Qt Nv OA Qy Jy Og Jw SI Ya Jx Qv P7 Qu Qx Nc Jk Qw Qn Pe Mu Oh MN Mt
end Go.Ab
