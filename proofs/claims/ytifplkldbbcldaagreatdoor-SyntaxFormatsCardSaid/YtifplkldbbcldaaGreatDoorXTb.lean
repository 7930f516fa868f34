/- The law on sizes: SyntaxLimits, over abstract values. The reference's texts: joins, numbers, names, levels. The reference's texts: join, bound, types. The reference's texts: bound, types. The reference's texts of types. The reference's levels. Mutable rows of strings. Conditions: none. -/
import Derived.Test.YtifplkldbbcldaaGreatDoorXPm
set_option linter.unusedSimpArgs false
set_option linter.unusedVariables false
set_option maxRecDepth 4000
set_option maxHeartbeats 8000000
open UInt8 renaming ofNat→I9
open Nat renaming le_refl→A8,le_trans→BC
open List renaming length→I8,length_append→AA,length_cons→AB,length_nil→AD,getElem?_cons_zero→A5,getElem?_cons_succ→Ae,take_succ_cons→Ck,append_assoc→AS,length_map→AE,take_zero→G2,nil_append→A1,take_length→Li,take_of_length_le→A6,all_eq_true→A4,map_cons→AG,map_nil→AH,mem_of_getElem?→Aa,length_eq_zero_iff→OE,append_nil→AY,length_pos_iff→Aj,cons_append→A0,take_left→G1,map_append→Bg,dropLast_concat→Rq,getLastD_concat→Rr,length_singleton→Qr
open Option.some renaming injEq→AR
open Bool renaming and_eq_true→AM
open Int renaming reduceBEq→AP,reduceLE→BB
open Option renaming bind_eq_bind→AT,bind_some→B2
namespace Go.Ab
open Go.Proofs
end Go.Ab
namespace Go.Ab
open Go.Proofs
theorem XPv.cat {K:CY} {F:Fm} {L:Lm} {σ:AN} {d:Nat} {a b:List UInt8} (h:a.length+b.length≤100000000000000) (hk:K (put d (.d (.str (a++b))) F) L σ):XPv (bF .add a b) (some d) K F L σ:=by
 rw [B7 h];exact hk
theorem Ws (n:Nat):((n:Int).tmod 10)=((n % 10:Nat):Int):=by rw [Int.tmod_eq_emod_of_nonneg (by omega)];omega
theorem Wr (n:Nat):((n:Int).tdiv 10)=((n / 10:Nat):Int):=by rw [Int.tdiv_eq_ediv_of_nonneg (by omega)];omega
theorem gI (n:Nat):IntKind.i64.wrap (48+((n % 10:Nat):Int))=((48+n % 10:Nat):Int):=by rw [Av (by omega) (by omega)];omega
theorem jU {n:Nat} (h:n < 256):IntKind.u8.wrap (n:Int)=(n:Int):=by
 unfold IntKind.wrap
 simp only [IntKind.signed,IntKind.bits]
 simp
 omega
theorem bS {n:Nat} (h:n < 256):bytesOf [[.int .u8 (n:Int)]]=some [I9 n]:=by
 have h1:(0:Int)≤(n:Int)∧(n:Int) < 256:=by omega
 simp [bytesOf,byteOf,h1]
def ZN (m:Nat):List UInt8:=if m=0 then [] else Lib.decDigits m
theorem bZ (n:Nat):Lib.decDigits n=ZN (n / 10)++[I9 (48+n % 10)]:=by
 unfold ZN
 rw [Lib.decDigits]
 split
 · rename_i h
   rw [if_pos (by omega),Nat.mod_eq_of_lt h];rfl
 · rename_i h
   rw [if_neg (by omega)]
theorem mC {n:Nat} (h:0 < n):ZN n=ZN (n / 10)++[I9 (48+n % 10)]:=by
 rw [← bZ,ZN,if_neg (by omega)]
theorem cU (n:Nat) (σ:AN) (hn:n≤1000000000000):AQ Tryz.prog 97 [.d (.int .i64 n)] σ (fun v σ'=>v= .d (.str (Lib.decDigits n))∧σ'=σ):=by
 refine Ww (by simp) ?_
 rw [Ax]
 have h10:((10:Int)=0)=False:=by simp
 have hneg:decide ((n:Int) < 0)=false:=by simp
 have hlen:(Lib.decDigits n).length≤21:=by
  rw [← Lib.itoa_nonneg];exact Lib.itoa_length_le _ (by omega) (by omega)
 have hw10:∀m:Nat,m≤n→IntKind.i64.wrap ((m / 10:Nat):Int)=((m / 10:Nat):Int):=fun m hm=>Av (by omega) (by omega)
 (repeat' (first|refine Run.ct rfl ?_|((first|refine Run.reg mixed ?_|refine Run.AJ ?_)<;>try simp -implicitDefEqProofs only [hneg,h10,Ws,gI,jU (show 48+n % 10 < 256 by omega),bS (show 48+n % 10 < 256 by omega),Wr,hw10 n (A8 n),go_sem])|fail))
 refine Run.B3 ?_
 refine Run.B6 (fun (y:Nat×List UInt8)=>put 0 (.d (.int .i64 y.1)) (put 3 (.d (.str y.2)) U)) (fun _=>E) (fun _=>σ) (fun y=>y.1≤n∧Lib.decDigits n=ZN y.1++y.2) (fun y=>y.1) ?_ (n / 10,[I9 (48+n % 10)]) ⟨by simp only;omega,bZ n⟩
 rintro ⟨m,s⟩ ⟨hm,hs⟩ ih
 simp only at hm hs
 have hsl:s.length≤21:=by
  have:=congrArg I8 hs
  rw [AA] at this;omega
 by_cases h0:0 < m
 · have hd:decide ((0:Int) < (m:Int))=true:=by simpa using h0
   (repeat' (first|refine Run.ct rfl ?_|((first|refine Run.reg mixed ?_|refine Run.AJ ?_|(refine XPv.cat (by (try simp only [AA,AB,AD]);omega) ?_))<;>try simp -implicitDefEqProofs only [hd,h10,Ws,gI,jU (show 48+m % 10 < 256 by omega),bS (show 48+m % 10 < 256 by omega),Wr,hw10 m hm,go_sem])|fail))
   refine ih (m / 10,_) ⟨by simp only;omega,?_⟩ (by simp only;omega)
   simp only
   rw [hs,mC h0];simp
 · have hd:decide ((0:Int) < (m:Int))=false:=by simp;omega
   (repeat' (first|refine Run.ct rfl ?_|((first|refine Run.reg mixed ?_|refine Run.AJ ?_|refine Run.A9 SK (AN.le_refl _) ?_)<;>try simp -implicitDefEqProofs only [hd,go_sem])|fail))
   have:m=0:=by omega
   subst this
   simpa [ZN] using hs.symm
theorem Vl (u:Int) (σ:AN) (h0: -1000000≤u) (h1:u≤1000000):AQ Tryz.prog 97 [.d (.int .i64 u)] σ (fun v σ'=>v= .d (.str (Lib.itoa u))∧σ'=σ):=by
 by_cases hn:u < 0
 · have hi:Lib.itoa u=[45]++Lib.decDigits u.natAbs:=by unfold Lib.itoa;rw [if_pos hn];rfl
   have hl:(Lib.itoa u).length≤21:=Lib.itoa_length_le _ (by omega) (by omega)
   have hc:=cU u.natAbs σ (by omega)
   have hw:IntKind.i64.wrap (0 - u)=((u.natAbs:Nat):Int):=by
    have e:0 - u=((u.natAbs:Nat):Int):=by omega
    rw [e,Av (by omega) (by omega)]
   refine Ww (by simp) ?_
   rw [Ax]
   rw [hi] at hl ⊢
   have ha:=B7 (a:=[45]) (b:=Lib.decDigits u.natAbs) (by rw [AA] at hl;omega)
   (repeat' (first|refine Run.ct rfl ?_|((first|refine Run.reg mixed ?_|refine Run.AJ ?_|refine Run.A9 SK (AN.le_refl _) ?_|refine AI.det (hc) ?_)<;>try simp -implicitDefEqProofs only [decide_eq_true hn,hw,ha,go_sem])|fail))
 · obtain ⟨m,rfl⟩:∃m:Nat,u=m:=⟨u.toNat,by omega⟩
   have hi:Lib.itoa (m:Int)=Lib.decDigits m:=by unfold Lib.itoa;rw [if_neg hn];rfl
   rw [hi]
   exact cU m σ (by omega)
theorem Sm (s:Str) (σ:AN):AQ Tryz.prog 98 [.d (.str s)] σ (fun v σ'=>v= .d (.str (shown s))∧σ'=σ):=by
 refine lD (by simp) ?_
 rw [Ax]
 by_cases hs:s=[]
 · subst hs
   (repeat' (first|refine Run.ct rfl ?_|((first|refine Run.reg mixed ?_|refine Run.AJ ?_|refine Run.A9 Ub (AN.le_refl _) ?_)<;>try simp -implicitDefEqProofs only [EG,go_sem])|fail))
   all_goals rfl
 · rw [shown,if_neg hs]
   have he:(s==([]:List UInt8))=false:=by cases s with|nil=>exact absurd rfl hs|cons a l=>rfl
   (repeat' (first|refine Run.ct rfl ?_|((first|refine Run.reg mixed ?_|refine Run.AJ ?_|refine Run.A9 Ub (AN.le_refl _) ?_)<;>try simp -implicitDefEqProofs only [EG,he,go_sem])|fail))
end Go.Ab
namespace Go.Ab
open Go.Proofs
theorem Yt {sep:Str} {l:List Str} {x:Str} (h:l[0]?=some x):Lib.join (l.take (0+1)) sep=x:=by
 cases l with
 |nil=>cases h
 |cons y r=>
  simp only [A5,AR] at h
  subst h
  exact Lib.join_one y sep
theorem Yu {sep:Str} {l:List Str} {k:Nat} {x:Str} (hk:0 < k) (h:l[k]?=some x):Lib.join (l.take (k+1)) sep=Lib.join (l.take k) sep++sep++x:=by
 cases l with
 |nil=>simp at h
 |cons y r=>
  obtain ⟨k,rfl⟩:∃q,k=q+1:=⟨k - 1,by omega⟩
  simp only [Ae] at h
  rw [Ck,Ck,Lib.join_cons,Lib.join_cons,Lib.joinTail_take_succ sep r k x h]
  simp only [AS]
theorem QZ (sep:Str) (l:List Str) (k:Nat):(Lib.join (l.take k) sep).length≤(Lib.join l sep).length:=by
 cases l with
 |nil=>simp
 |cons y r=>
  cases k with
  |zero=>simp [Lib.join_nil]
  |succ k=>
   rw [Ck,Lib.join_cons,Lib.join_cons,AA,AA]
   have:=Lib.joinTail_take_le sep r k
   omega
theorem HZ (l:List Str) (σ:AN) (hl:(Lib.join l [44,32]).length≤1000000000000):AQ Tryz.prog 47 [.d (.sl (l.map BM))] σ (fun v σ'=>v= .d (.str (Lib.join l [44,32]))∧σ'=σ):=by
 refine qE (by simp) ?_
 rw [Ax]
 refine Run.slot 0 (fun hb0=>?_)
 have hb0:l.length≤9223372036854775807:=by simpa [IX,AV.HW] using hb0
 (repeat' (first|refine Run.ct rfl ?_|((first|refine Run.reg mixed ?_|refine Run.AJ ?_)<;>try simp -implicitDefEqProofs only [go_sem])|fail))
 refine Run.B3 ?_
 refine Run.B6 ((fun (a0:AV)=>fun (i:Nat)=>put 0 a0 (put 3 (.d (.str (Lib.join (l.take i) [44,32]))) (put 4 (.d (.int .i64 i)) U))) _) (fun _=>E) (fun _=>σ) (fun i=>i≤l.length) (fun i=>l.length - i) ?_ 0 (by simp)
 rintro i hi ih
 by_cases hlt:i < l.length
 · obtain ⟨x,hx⟩:=Bu hlt
   have he:=Bi (enc:=BM) hx
   simp only [BM] at he
   have hw1:IntKind.i64.wrap ((i:Int)+1)=((i+1:Nat):Int):=by rw [Av (by omega) (by omega)];omega
   have hle:=QZ [44,32] l (i+1)
   by_cases hi0:0 < i
   · have hs:=Yu (sep:=[44,32]) hi0 hx
     rw [hs] at hle
     simp only [AA,AB,AD] at hle
     have ha1:=B7 (a:=Lib.join (l.take i) [44,32]) (b:=[44,32]) (by simp only [AB,AD];omega)
     have ha2:=B7 (a:=Lib.join (l.take i) [44,32]++[44,32]) (b:=x) (by simp only [AA,AB,AD];omega)
     have hih:=ih (i+1) (by omega) (by omega)
     simp only [hs] at hih
     (repeat' (first|refine Run.ct rfl ?_|((first|refine Run.reg mixed ?_|refine Run.AJ ?_)<;>try simp -implicitDefEqProofs only [BQ hlt,AE,gt0,decide_eq_true hi0,he,hw1,ha1,ha2,go_sem])|fail))
     exact hih
   · obtain rfl:i=0:=by omega
     have hs:=Yt (sep:=[44,32]) hx
     have hih:=ih (0+1) (by omega) (by omega)
     simp only [hs] at hih
     rw [hs] at hle
     have ha2:=B7 (a:=[]) (b:=x) (by simp only [AD];omega)
     (repeat' (first|refine Run.ct rfl ?_|((first|refine Run.reg mixed ?_|refine Run.AJ ?_)<;>try simp -implicitDefEqProofs only [BQ hlt,AE,gt0,decide_eq_false hi0,he,hw1,ha2,G2,Lib.join_nil,A1,go_sem])|fail))
     exact hih
 · have hie:i=l.length:=by omega
   subst hie
   simp only [Li]
   (repeat' (first|refine Run.ct rfl ?_|((first|refine Run.reg mixed ?_|refine Run.AJ ?_|refine Run.A9 cC (AN.le_refl _) ?_)<;>try simp -implicitDefEqProofs only [DA hlt,AE,go_sem])|fail))
theorem Oa {l:List Str} {v:AV} {σ:AN} (hv:v.plain= .d (.sl (l.map BM))) (hl:(Lib.join l [44,32]).length≤1000000000000):
 AQ Tryz.prog 47 [v] σ (fun u σ'=>u= .d (.str (Lib.join l [44,32]))∧σ'=σ):=
 AQ.plain (by simp only [AV.Ez,hv];exact HZ l σ hl)
end Go.Ab
namespace Go.Ab
open Go.Proofs
theorem XI (l:List Str) (σ:AN) (h6:l.length≤1000) (hl:(Lib.join (l.map shown) [44,32]).length≤1000000000000):AQ Tryz.prog 99 [.d (.sl (l.map BM))] σ (fun v σ'=>v= .d (.str (Lib.join (l.map shown) [44,32]))∧σ'=σ):=by
 refine lA (by simp) ?_
 rw [Ax]
 (repeat' (first|refine Run.ct rfl ?_|((first|refine Run.reg mixed ?_|refine Run.AJ ?_)<;>try simp -implicitDefEqProofs only [go_sem])|fail))
 refine Run.B3 ?_
 refine Run.B6 ((fun (a0:AV)=>fun (y:Nat×AV×AN)=>put 0 a0 (put 3 (y.2.1) (put 4 (.d (.int .i64 y.1)) U))) _) (fun _=>E) (fun y=>y.2.2) (fun y=>y.1≤l.length∧D8 σ 9 1 (((l.take y.1).map shown).map BM) y.2.1 y.2.2) (fun y=>l.length - y.1) ?_ (0,.AX,σ) ⟨by simp,D8.nil _ _ _⟩
 rintro ⟨i,v,τ⟩ ⟨hi,ho⟩ ih
 simp only at hi ho
 by_cases hlt:i < l.length
 · obtain ⟨x,hx⟩:=Bu hlt
   have he:=Bi (enc:=BM) hx
   simp only [BM] at he
   have hw1:IntKind.i64.wrap ((i:Int)+1)=((i+1:Nat):Int):=by rw [Av (by omega) (by omega)];omega
   have hc:=Sm x τ
   have hnx:((l.take (i+1)).map shown).map BM=((l.take i).map shown).map BM++[[.str (shown x)]]:=by
    rw [E3 hx];simp [BM]
   (repeat' (first|refine Run.ct rfl ?_|((first|refine Run.reg mixed ?_|refine Run.AJ ?_|(refine JH.own ho rfl (by simp) (by simp;omega) (by decide) (fun v3 σ3 ho3 hbk=>?_))|refine AI.det (hc) ?_)<;>try simp -implicitDefEqProofs only [BQ hlt,he,hw1,AE,ho.cell,ho.cells,ho.As,ho.BJ,go_sem])|fail))
   try simp -implicitDefEqProofs only [ho3.cells,ho3.cell,ho3.As,ho3.BJ,go_sem]
   (repeat' (first|refine Run.ct rfl ?_|((first|refine Run.reg mixed ?_|refine Run.AJ ?_)<;>try simp -implicitDefEqProofs only [hw1,ho3.cell,ho3.cells,ho3.As,ho3.BJ,go_sem])|fail))
   exact ih (i+1,v3,σ3) ⟨by simp only;omega,by simp only;rw [hnx];exact ho3⟩ (by simp only;omega)
 · rw [A6 (by omega)] at ho
   have hj:=Oa (σ:=τ) ho.plain hl
   (repeat' (first|refine Run.ct rfl ?_|((first|refine Run.reg mixed ?_|refine Run.AJ ?_|(refine AI.det hj ?_ (by simp [ho.As]))|(refine Run.A9 Yg (σ2:=σ) ho.le ?_))<;>try simp -implicitDefEqProofs only [DA hlt,AE,ho.cell,ho.cells,ho.As,ho.BJ,go_sem])|fail))
end Go.Ab
namespace Go.Ab
open Go.Proofs
def WkT (F F':Fm):Prop:=∀s,F' s=F s∨((F s).As=true∧F' s=(F s).plain)
theorem Run.AAO {cx:Cx} {KK:AV→AN→Prop} {k:List CI} {F F':Fm} {L:Lm} {σ:AN} (hF:WkT F F') (h:Run cx KK k F' L σ):Run cx KK k F L σ:=by
 intro items base g lam Pr a w0 w b cs0 hi0 hf hb hk
 refine h items base g lam Pr a w0 w b cs0 hi0 ⟨fun s=>?_,hf.sz,hf.df,hf.loc,hf.inj,hf.npr,hf.rel⟩ hb hk
 rcases hF s with e|e
 · rw [e];exact hf.tm s
 · rw [e.2];exact SV.Ec (SV.vr e.1 (hf.tm s)).plain
theorem WkT.refl (F:Fm):WkT F F:=fun _=>.inl rfl
theorem WkT.skip {F F':Fm} (h:WkT F F') (s:Nat) (x:AV):WkT (put s x F) (put s x F'):=fun s'=>by
 by_cases e:s'=s
 · subst e;exact .inl (by simp [put])
 · rcases h s' with h|h
   · exact .inl (by simp [put,e,h])
   · exact .inr (by simp [put,e,h])
theorem WkT.here {F F':Fm} (h:WkT F F') (s:Nat) {v w:AV} (hn:v.As=true) (hp:v.plain=w):WkT (put s v F) (put s w F'):=fun s'=>by
 by_cases e:s'=s
 · subst e;exact .inr (by simp [put,hn,hp])
 · rcases h s' with h|h
   · exact .inl (by simp [put,e,h])
   · exact .inr (by simp [put,e,h])
theorem wD {k:Int} {n:Str} {q:Nat} (h:Bk k n q=true):k=1∨k=2∨k=3∨k=4∨k=5∨k=6∨k=7∨k=8∨k=9:=by
 unfold Bk at h
 repeat' (split at h)
 all_goals first|omega|cases h
theorem OL {l:List Str} (h:l≠[]):Dc l=40::(Lib.join l [44,32]++[41]):=by rw [Dc,if_neg h];rfl
set_option maxHeartbeats 4000000 in
theorem N0:∀(d:Nat) (t:TE),Bf d t=true→t.size≤100000→∀σ,AQ Tryz.prog 48 [teA t] σ (fun v σ'=>v= .d (.str (Au t))∧σ'=σ)
 |0,t,h,_,_=>by simp [Bf] at h
 |d+1,.mk k n l,h,hz,σ=>by
  have hlen:=Sf (d+1) (.mk k n l) h
  rw [Bf,AM,A4] at h
  obtain ⟨hsh,hall⟩:=h
  rw [TE.size] at hz
  have hr:=fun x hx σ=>N0 d x (hall x hx) (by have:=TE.Ly hx;omega) σ
  have hl7:l.length≤100000:=by have:=TE.Es l;omega
  have hjl:(Lib.join (l.map Au) [44,32]).length≤6000000:=by
   have h1:=E2 (sep:=[44,32]) (by decide) (l.map Au)
   have h2:=sF Au (fun t=>60 * t.size) l (fun x hx=>Sf d x (hall x hx))
   rw [jP,← Mq] at h2
   omega
  refine aP (by simp) ?_
  rw [Ax]
  simp only [teA,TE.A3,AG,AH]
  (repeat' (first|refine Run.ct rfl ?_|((first|refine Run.reg mixed ?_|refine Run.AJ ?_)<;>try simp -implicitDefEqProofs only [go_sem])|fail))
  refine Run.B3 ?_
  refine Run.B6 ((fun (a1:AV)=>fun (y:Nat×AV×AN)=>put 1 a1 (put 3 (y.2.1) (put 4 (.d (.int .i64 y.1)) U))) _) (fun _=>BZ 1 [.d (.int .i64 k),.d (.str n),.d (.sl (l.map TE.enc))] E) (fun y=>y.2.2) (fun y=>y.1≤l.length∧D8 σ 9 1 (((l.take y.1).map Au).map BM) y.2.1 y.2.2) (fun y=>l.length - y.1) ?_ (0,.AX,σ) ⟨by simp,D8.nil _ _ _⟩
  rintro ⟨i,v,τ⟩ ⟨hi,ho⟩ ih
  simp only at hi ho
  by_cases hlt:i < l.length
  · obtain ⟨x,hx⟩:=Bu hlt
    have he:=Bi (enc:=TE.enc) hx
    have hw1:IntKind.i64.wrap ((i:Int)+1)=((i+1:Nat):Int):=by rw [Av (by omega) (by omega)];omega
    have hc:=hr x (Aa hx) τ
    have hnx:((l.take (i+1)).map Au).map BM=((l.take i).map Au).map BM++[[.str (Au x)]]:=by
     rw [E3 hx];simp [BM]
    obtain ⟨k0,n0,l0⟩:=x
    simp only [teA,TE.A3,AG,AH] at he hc
    (repeat' (first|refine Run.ct rfl ?_|((first|refine Run.reg mixed ?_|refine Run.AJ ?_|(refine JH.own ho rfl (by simp) (by simp;omega) (by decide) (fun v3 σ3 ho3 hbk=>?_))|refine AI.det (hc) ?_)<;>try simp -implicitDefEqProofs only [BQ hlt,he,hw1,AE,ho.cell,ho.cells,ho.As,ho.BJ,go_sem])|fail))
    (repeat' (first|refine Run.ct rfl ?_|((first|refine Run.reg mixed ?_|refine Run.AJ ?_)<;>try simp -implicitDefEqProofs only [hw1,ho3.cell,ho3.cells,ho3.As,ho3.BJ,go_sem])|fail))
    exact ih (i+1,v3,σ3) ⟨by simp only;omega,by simp only;rw [hnx];exact ho3⟩ (by simp only;omega)
  rw [A6 (by omega)] at ho
  have hji:=HZ (l.map Au) τ (by omega)
  have htl:=hX (k:=k) (Zd hsh) (l.map Au)
  refine Run.AAO (F':=put 1 (.lp 1 0) (put 3 (.d (.sl ((l.map Au).map BM))) (put 4 (.d (.int .i64 i)) U))) ((WkT.here (WkT.refl _) 3 ho.As ho.plain).skip 1 _) ?_
  have hle:=ho.le
  clear ih ho
  generalize hJ:Lib.join (l.map Au) [44,32]=J at hji hjl
  have hn24:=Zd hsh
  rw [Au,NJ]
  have hlen0:decide (((l.length:Nat):Int)=0)=decide (l=[]):=decide_eq_decide.2 (by rw [← OE];omega)
  rcases wD hsh with rfl|rfl|rfl|rfl|rfl|rfl|rfl|rfl|rfl
  · (repeat' (first|refine Run.ct rfl ?_|((first|refine Run.reg mixed ?_|refine Run.AJ ?_|(refine Run.A9 Cp (σ2:=σ) hle ?_))<;>try simp -implicitDefEqProofs only [DA hlt,AE,AP,go_sem])|fail))
    rfl
  · (repeat' (first|refine Run.ct rfl ?_|((first|refine Run.reg mixed ?_|refine Run.AJ ?_|(refine Run.A9 Cp (σ2:=σ) hle ?_))<;>try simp -implicitDefEqProofs only [DA hlt,AE,AP,go_sem])|fail))
    rfl
  · (repeat' (first|refine Run.ct rfl ?_|((first|refine Run.reg mixed ?_|refine Run.AJ ?_|(refine Run.A9 Cp (σ2:=σ) hle ?_))<;>try simp -implicitDefEqProofs only [DA hlt,AE,AP,go_sem])|fail))
    rfl
  · have:l=[]:=by simpa [Bk] using And.right (by simpa [Bk] using hsh:DQ n=true∧l=[])
    subst this
    have e:tyN 4 n (([]:List TE).map Au)=n:=by show n++[]=n;rw [AY]
    rw [e]
    (repeat' (first|refine Run.ct rfl ?_|((first|refine Run.reg mixed ?_|refine Run.AJ ?_|(refine Run.A9 Cp (σ2:=σ) hle ?_))<;>try simp -implicitDefEqProofs only [DA hlt,AE,AP,go_sem])|(refine ⟨fun h=>?_,fun h=>?_⟩<;>first|(cases h;done)|try simp only [h])|fail))
  · by_cases hl0:l=[]
    · subst hl0
      have e:tyN 5 n (([]:List TE).map Au)=n:=by show n++[]=n;rw [AY]
      rw [e]
      (repeat' (first|refine Run.ct rfl ?_|((first|refine Run.reg mixed ?_|refine Run.AJ ?_|(refine Run.A9 Cp (σ2:=σ) hle ?_))<;>try simp -implicitDefEqProofs only [DA hlt,AE,AD,AH,AP,beq_self_eq_true,go_sem])|(refine ⟨fun h=>?_,fun h=>?_⟩<;>first|(cases h;done)|try simp only [h])|fail))
    · have e:tyN 5 n (l.map Au)=n++[40]++J++[41]:=by
       show n++Dc _=_
       rw [OL (by simpa using hl0),hJ];simp
      have hz:(((l.length:Nat):Int)==0)=false:=Bt (by have:=Aj.2 hl0;omega)
      rw [e]
      have ha1:=B7 (a:=n) (b:=[40]) (by simp only [AB,AD];omega)
      have ha2:=B7 (a:=n++[40]) (b:=J) (by simp only [AA,AB,AD];omega)
      have ha3:=B7 (a:=n++[40]++J) (b:=[41]) (by simp only [AA,AB,AD];omega)
      (repeat' (first|refine Run.ct rfl ?_|((first|refine Run.reg mixed ?_|refine Run.AJ ?_|(refine Run.A9 Cp (σ2:=σ) hle ?_)|refine AI.det (hji) ?_)<;>try simp -implicitDefEqProofs only [DA hlt,AE,AP,hz,ha1,ha2,ha3,go_sem])|fail))
  · have hl0:l≠[]:=by intro e;subst e;simp [Bk] at hsh
    have hn0:n=[]:=by
     simp [Bk] at hsh;exact hsh.1.1
    have e:tyN 6 n (l.map Au)=[40]++J++[41]:=by
     show n++Dc _=_
     rw [OL (by simpa using hl0),hJ,hn0];simp
    rw [e]
    have ha1:=B7 (a:=[40]) (b:=J) (by simp only [AB,AD];omega)
    have ha2:=B7 (a:=[40]++J) (b:=[41]) (by simp only [AA,AB,AD];omega)
    simp only [A0,A1] at ha1 ha2 ⊢
    (repeat' (first|refine Run.ct rfl ?_|((first|refine Run.reg mixed ?_|refine Run.AJ ?_|(refine Run.A9 Cp (σ2:=σ) hle ?_)|refine AI.det (hji) ?_)<;>try simp -implicitDefEqProofs only [DA hlt,AE,AP,ha1,ha2,go_sem])|fail))
  · have hl0:l≠[]:=by intro e;subst e;simp [Bk] at hsh
    have e:tyN 7 n (l.map Au)=[97,114,114,97,121,40]++J++[41]:=by
     show [97,114,114,97,121]++Dc _=_
     rw [OL (by simpa using hl0),hJ];simp
    rw [e]
    have ha1:=B7 (a:=[97,114,114,97,121,40]) (b:=J) (by simp only [AB,AD];omega)
    have ha2:=B7 (a:=[97,114,114,97,121,40]++J) (b:=[41]) (by simp only [AA,AB,AD];omega)
    simp only [A0,A1] at ha1 ha2 ⊢
    (repeat' (first|refine Run.ct rfl ?_|((first|refine Run.reg mixed ?_|refine Run.AJ ?_|(refine Run.A9 Cp (σ2:=σ) hle ?_)|refine AI.det (hji) ?_)<;>try simp -implicitDefEqProofs only [DA hlt,AE,AP,ha1,ha2,go_sem])|fail))
  · have hl0:l≠[]:=by intro e;subst e;simp [Bk] at hsh
    have e:tyN 8 n (l.map Au)=[114,101,102,40]++J++[41]:=by
     show [114,101,102]++Dc _=_
     rw [OL (by simpa using hl0),hJ];simp
    rw [e]
    have ha1:=B7 (a:=[114,101,102,40]) (b:=J) (by simp only [AB,AD];omega)
    have ha2:=B7 (a:=[114,101,102,40]++J) (b:=[41]) (by simp only [AA,AB,AD];omega)
    simp only [A0,A1] at ha1 ha2 ⊢
    (repeat' (first|refine Run.ct rfl ?_|((first|refine Run.reg mixed ?_|refine Run.AJ ?_|(refine Run.A9 Cp (σ2:=σ) hle ?_)|refine AI.det (hji) ?_)<;>try simp -implicitDefEqProofs only [DA hlt,AE,AP,ha1,ha2,go_sem])|fail))
  · have hl0:l≠[]:=by intro e;subst e;simp [Bk] at hsh
    obtain ⟨l,z,rfl⟩:∃l' z,l=l'++[z]:=⟨l.dropLast,l.getLast hl0,(List.dropLast_concat_getLast hl0).symm⟩
    have hjs:(Lib.join (l.map Au) [44,32]).length≤6000000:=by
     have:=QZ [44,32] ((l++[z]).map Au) l.length
     rw [← List.map_take,G1,hJ] at this
     omega
    have hji':=HZ (l.map Au) τ (by omega)
    have hl8:l.length+1≤100000:=by simpa using hl7
    have hzl:(Au z).length≤6000000:=by
     have:=Sf d z (hall z (by simp))
     have:=TE.Ly (l:=l++[z]) (t:=z) (by simp)
     omega
    have e:tyN 9 n ((l++[z]).map Au)=[102,110,40]++Lib.join (l.map Au) [44,32]++[41,32,45,62,32]++Au z:=by
     show [102,110]++(FU ((l++[z]).map Au).dropLast++([32,45,62,32]++((l++[z]).map Au).getLastD []))=_
     rw [Bg,List.map_singleton,Rq,FU,GB,cms,Rr]
     simp
    rw [e]
    generalize Lib.join (l.map Au) [44,32]=J2 at hji' hjs
    have hw:IntKind.i64.wrap (((l++[z]).length:Nat) - 1:Int)=((l.length:Nat):Int):=by
     rw [AA,Qr,Av (by omega) (by omega)];omega
    have hzx:(((l++[z]).map Au).map BM)[l.length]?=some [.str (Au z)]:=by simp [BM]
    have htk:Ur (((l++[z]).map Au).map BM) none (some (.d (.int .i64 (l.length:Int)))) none 1=some (.d (.sl ((l.map Au).map BM))):=by
     have h0:Ur (((l++[z]).map Au).map BM) none (some (.d (.int .i64 (l.length:Int)))) none 1=some (.d (.sl ((((l++[z]).map Au).map BM).take l.length))):=by simp [Ur,VG,Th]
     rw [h0,← List.map_take,← List.map_take,G1]
    have hRl:(((l++[z]).map Au).map BM).length=(l++[z]).length:=by simp
    generalize Au z=tz at hzl hzx ⊢
    generalize ((l++[z]).map Au).map BM=R at hzx htk hRl ⊢
    have ha1:=B7 (a:=[102,110,40]) (b:=J2) (by simp only [AB,AD];omega)
    have ha2:=B7 (a:=[102,110,40]++J2) (b:=[41,32,45,62,32]) (by simp only [AA,AB,AD];omega)
    have ha3:=B7 (a:=[102,110,40]++J2++[41,32,45,62,32]) (b:=tz) (by simp only [AA,AB,AD];omega)
    simp only [A0,A1] at ha1 ha2 ha3 ⊢
    (repeat' (first|refine Run.ct rfl ?_|((first|refine Run.reg mixed ?_|refine Run.AJ ?_)<;>try simp -implicitDefEqProofs only [DA hlt,AE,AP,go_sem])|fail))
    refine Run.FA mixed ?_
    simp -implicitDefEqProofs only [hRl,hw,htk,hzx,ha1,ha2,ha3,go_sem]
    refine ⟨?_,?_⟩
    all_goals (repeat' (first|refine Run.ct rfl ?_|((first|refine Run.reg mixed ?_|refine Run.AJ ?_|(refine Run.A9 Cp (σ2:=σ) hle ?_)|refine AI.det (hji') ?_)<;>try simp -implicitDefEqProofs only [hRl,hw,htk,hzx,ha1,ha2,ha3,go_sem])|fail))
end Go.Ab
namespace Go.Ab
open Go.Proofs
theorem XJ {o:Int} {n:Str} {u:Int} {ns:List Str} {ks:List Ex} {al:List Al} (hu:o=13→1≤u∧u≤8) (σ:AN):AQ Tryz.prog 94 [exA (.mk o n u ns ks al)] σ (fun v σ'=>v= .d (.int .i64 ((lvl (.mk o n u ns ks al):Nat):Int))∧σ'=σ):=by
 refine lB (by simp) ?_
 rw [Ax]
 simp only [exA,Ex.A3,AG,AH,lvl]
 by_cases h0:o=7∨o=8∨o=9∨o=10∨o=11∨o=17
 · rw [if_pos h0]
   rcases h0 with rfl|rfl|rfl|rfl|rfl|rfl
   all_goals (repeat' (first|refine Run.ct rfl ?_|((first|refine Run.reg mixed ?_|refine Run.AJ ?_|refine Run.A9 NL (AN.le_refl _) ?_)<;>try simp -implicitDefEqProofs only [AP,go_sem])|fail))
   all_goals rfl
 · rw [if_neg h0]
   simp only [not_or] at h0
   obtain ⟨h1,h2,h3,h4,h5,h6⟩:=h0
   by_cases h13:o=13
   · subst h13
     rw [if_pos rfl]
     have hu8:=hu rfl
     have hk:u=1∨u=2∨u=3∨u=4∨u=5∨u=6∨u=7∨u=8:=by omega
     rcases hk with rfl|rfl|rfl|rfl|rfl|rfl|rfl|rfl
     all_goals (repeat' (first|refine Run.ct rfl ?_|((first|refine Run.reg mixed ?_|refine Run.AJ ?_|refine Run.A9 NL (AN.le_refl _) ?_)<;>try simp -implicitDefEqProofs only [AP,BB,Int.reduceLT,decide_true,decide_false,go_sem])|fail))
     all_goals rfl
   · rw [if_neg h13]
     by_cases h12:o=12
     · subst h12
       rw [if_pos rfl]
       (repeat' (first|refine Run.ct rfl ?_|((first|refine Run.reg mixed ?_|refine Run.AJ ?_|refine Run.A9 NL (AN.le_refl _) ?_)<;>try simp -implicitDefEqProofs only [AP,go_sem])|fail))
       all_goals rfl
     · rw [if_neg h12]
       (repeat' (first|refine Run.ct rfl ?_|((first|refine Run.reg mixed ?_|refine Run.AJ ?_|refine Run.A9 NL (AN.le_refl _) ?_)<;>try simp -implicitDefEqProofs only [Bt h1,Bt h2,Bt h3,Bt h4,Bt h5,Bt h6,Bt h12,Bt h13,go_sem])|fail))
       all_goals rfl
end Go.Ab
namespace Go.Ab
open Go.Proofs
theorem AN.ext' {σ τ:AN} (h1:σ.blk=τ.blk) (h2:σ.tok=τ.tok) (h3:σ.gt=τ.gt) (h4:σ.bt=τ.bt):σ=τ:=by
 cases σ;cases τ;simp_all
theorem xI {σ:AN} {j:Nat} {cs:List AV} (h:σ.blk j=none):(σ.AK j cs).DK j=σ:=by
 refine AN.ext' ?_ rfl rfl rfl
 funext k
 by_cases e:k=j
 · subst e;simp [AN.DK,h]
 · simp [AN.DK,AN.AK,e]
def Wd (ts:List Str):List AV:=ts.map fun t=>.d (.str t)
abbrev wN:Nat:=9
def SR (σ0:AN) (ts:List Str) (v:AV) (σ:AN):Prop:=(v= .AX∧ts=[]∧σ=σ0)∨∃j,σ0.blk j=none∧v= .ms j ts.length 1 wN∧σ=σ0.AK j (Wd ts)
theorem SR.nil (σ:AN):SR σ [] .AX σ:= .inl ⟨rfl,rfl,rfl⟩
theorem SR.le {σ0 σ:AN} {ts:List Str} {v:AV} (h:SR σ0 ts v σ):σ0.le σ:=by
 rcases h with ⟨_,_,rfl⟩|⟨j,hj,_,rfl⟩
 · exact AN.le_refl _
 · exact Vb (AN.le_refl _) hj _
theorem SR.cell {σ0 σ:AN} {ts:List Str} {v:AV} (h:SR σ0 ts v σ):v.CU=true∧v.As=true∧v.cells=[v]∧∀k,v.BJ k=false:=by
 rcases h with ⟨rfl,_,_⟩|⟨j,_,rfl,_⟩<;>exact ⟨rfl,rfl,rfl,fun _=>rfl⟩
theorem Rt.sr {K:CY} {F:Fm} {L:Lm} {σ σ0:AN} {d:Option Nat} {ts:List Str} {y:Str} {v x:AV} {bytes:Nat} (hm:SR σ0 ts v σ) (hx:x.rows=some [[.str y]]) (hl:ts.length≤100000) (hb:bytes≤10000)
 (h:∀v' σ',SR σ0 (ts++[y]) v' σ'→K (At d v' F) L σ'):Rt wN 1 bytes v x d K F L σ:=by
 have happ:∃cs σ1,Qs σ wN 1 v=some (ts.length,cs,σ1)∧cs=Wd ts∧σ1=σ0:=by
  rcases hm with ⟨rfl,rfl,rfl⟩|⟨j,hj,rfl,rfl⟩
  · exact ⟨[],σ,rfl,rfl,rfl⟩
  · exact ⟨Wd ts,(σ0.AK j (Wd ts)).DK j,by simp [Qs,AO,Wd],rfl,xI hj⟩
 obtain ⟨cs,σ1,ha,rfl,rfl⟩:=happ
 refine Rt.mk ha hx (by simp) (by simp) (by simp;omega) hb (fun j hj=>h _ _ (.inr ⟨j,?_,by simp,?_⟩))
 · rcases hm with ⟨rfl,rfl,rfl⟩|⟨j',hj',rfl,rfl⟩
   · exact hj
   · simp only [AO] at hj
     split at hj
     · cases hj
     · exact hj
 · simp [Gc,Wd]
theorem nO:∀ts:List Str,dvs (Wd ts)=some (ts.map DV.str)
 |[]=>rfl
 |x::l=>by
  have:=nO l
  simp only [Wd,AG,dvs,AV.dv,AT,B2] at this ⊢
  rw [this];rfl
theorem bV:∀ts:List Str,chunk 1 ts.length (ts.map DV.str)=ts.map BM
 |[]=>rfl
 |x::l=>by
  have:=bV l
  simp only [AB,chunk,AG,BM,Ck,G2,List.drop_succ_cons,List.drop_zero] at this ⊢
  rw [this]
def FzT (v w:AV) (F F':Fm):Prop:=∀s,F' s=F s∨(F s=v∧F' s=w)
theorem FzT.refl (v w:AV) (F:Fm):FzT v w F F:=fun _=>.inl rfl
theorem FzT.skip {v w:AV} {F F':Fm} (h:FzT v w F F') (s:Nat) (x:AV):FzT v w (put s x F) (put s x F'):=fun s'=>by
 by_cases e:s'=s
 · subst e;exact .inl (by simp [put])
 · rcases h s' with h|h
   · exact .inl (by simp [put,e,h])
   · exact .inr (by simp [put,e,h])
theorem FzT.here {v w:AV} {F F':Fm} (h:FzT v w F F') (s:Nat):FzT v w (put s v F) (put s w F'):=fun s'=>by
 by_cases e:s'=s
 · subst e;exact .inr (by simp [put])
 · rcases h s' with h|h
   · exact .inl (by simp [put,e,h])
   · exact .inr (by simp [put,e,h])
theorem Run.srz {cx:Cx} {KK:AV→AN→Prop} {k:List CI} {F F':Fm} {L:Lm} {σ0 τ:AN} {ts:List Str} {v:AV} (h:SR σ0 ts v τ) (hl:ts.length≤1000000) (hF:FzT v (.d (.sl (ts.map BM))) F F') (hr:Run cx KK k F' L σ0):Run cx KK k F L τ:=by
 rcases h with ⟨rfl,rfl,rfl⟩|⟨j,hj,rfl,rfl⟩
 · refine Run.AAO (F':=F') (fun s=>?_) hr
   rcases hF s with e|⟨e1,e2⟩
   · exact .inl e
   · exact .inr ⟨by rw [e1];rfl,by rw [e1,e2];rfl⟩
 · refine Run.freeze (i:=j) (n:=ts.length) (size:=1) (cs:=Wd ts) (ds:=ts.map DV.str) (σ':=σ0) (L':=L) (F':=F') (by simp only [AO,if_true]) (nO ts) (by simp [Wd]) (BC hl (show (1000000:Nat)≤maxLen by decide+kernel)) (fun t=>?_) (fun k cs hk=>⟨cs,hk,.inl rfl⟩) (fun r cs' hr=>?_) (fun t h=>h) hr
   · rcases hF t with e|⟨e1,e2⟩
     · exact .inl e
     · right
       rw [e1,e2,bV]
       simp [frz]
   · have hne:r≠j:=fun e=>by rw [e,hj] at hr;cases hr
     exact ⟨hne,cs',by simp [AO,hne,hr],.inl rfl⟩
def V8 (o:Int):List Ex→List Str
 |[]=>[]
 |k::l=>(if o=12 then pl 4 k (Af k) else Af k)::l.map Af
theorem gZ (o:Int) (l:List Ex):(V8 o l).length=l.length:=by cases l<;>simp [V8]
theorem xV {o:Int} (h:o≠12) (l:List Ex):V8 o l=l.map Af:=by
 cases l with
 |nil=>rfl
 |cons k l=>rw [V8,if_neg h];rfl
theorem xU {o:Int} {l:List Ex} {i:Nat} {x:Ex} (h:l[i]?=some x):(V8 o l)[i]?=some (pl (if o=12∧i=0 then 4 else 0) x (Af x)):=by
 cases l with
 |nil=>cases h
 |cons k l=>
  cases i with
  |zero=>
   simp only [A5,AR] at h
   subst h
   rw [V8]
   by_cases ho:o=12
   · simp [ho]
   · simp [ho,pl]
  |succ i=>
   simp only [Ae] at h
   simp [V8,h,pl]
end Go.Ab
