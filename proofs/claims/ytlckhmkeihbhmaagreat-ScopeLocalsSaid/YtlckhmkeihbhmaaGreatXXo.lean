/- Components of a graph, in plain data: the groups in their order. Components: groups that are ready. Components: the whole function. Scope: the groups. Conditions: none. -/
import Derived.Test.YtlckhmkeihbhmaaGreatXWm
set_option linter.unusedSimpArgs false
set_option linter.unusedVariables false
set_option maxRecDepth 4000
set_option maxHeartbeats 8000000
open List renaming range→BI,replicate→AO,getElem?_map→Ad,getElem?_range→DL,ext_getElem?→GL,getD_eq_getElem?_getD→Bq,getElem?_eq_none→BP,getElem?_set→B5,getElem?_eq_some_iff→AR,mem_range→Gt,all_eq_true→Aj,filter_append→LJ,length_map→AA,length_cons→A5,length_nil→CQ,map_append→CR,mem_singleton→B6,length_append→AT,append_nil→At,replicate_succ→Eu,flatten_cons→Em,mem_map→CN,map_cons→AH,map_nil→AM
open Nat renaming lt_or_ge→Bt,mul_one→BQ,mul_le_mul_right→BN,succ_mul→Jb,le_trans→BY
open Bool renaming eq_false_iff→Bw
open Ne renaming symm→CO
namespace Go.Ab
def lsB (ls:List Bool) (k:Nat):Bool:=ls.getD k false
noncomputable def LO (g:List (List Nat)) (i k:Nat):Bool:=rB g i k&&rB g k i
noncomputable def nO (g:List (List Nat)) (i:Nat):List Nat:=(BI g.length).filter (LO g i)
noncomputable def dH (g:List (List Nat)) (ls:List Bool) (i:Nat):Bool:=(BI g.length).all fun j=>!((rB g i j&& !rB g j i)&& !lsB ls j)
noncomputable def Se (g:List (List Nat)) (i:Nat) (ls:List Bool) (j:Nat):List Bool:=(BI g.length).map fun k=>lsB ls k||(decide (k < j)&&LO g i k)
noncomputable def Y6 (g:List (List Nat)) (i:Nat) (ls:List Bool):List Bool:=Se g i ls g.length
noncomputable def bJ (g:List (List Nat)) (ls:List Bool) (i:Nat):Bool:=!lsB ls i&&dH g ls i
noncomputable def qO (g:List (List Nat)) (ls:List Bool):Option Nat:=(BI g.length).find? (bJ g ls)
noncomputable def SO (g:List (List Nat)):Nat→List Bool→List (List Nat)
 |0,_=>[]
 |f+1,ls=>match qO g ls with
  |none=>[]
  |some i=>nO g i::SO g f (Y6 g i ls)
noncomputable def Uy (g:List (List Nat)):List (List Nat):=SO g (g.length+1) (AO g.length false)
theorem JX (g:List (List Nat)) (i:Nat) (ls:List Bool) (j:Nat):(Se g i ls j).length=g.length:=by simp [Se]
theorem M9 (g:List (List Nat)) (i:Nat) (ls:List Bool) (j:Nat) {k:Nat} (hk:k < g.length):(Se g i ls j)[k]?=some (lsB ls k||(decide (k < j)&&LO g i k)):=by
 rw [Se,Ad,DL hk];rfl
theorem iE {g:List (List Nat)} {i:Nat} {ls:List Bool} (h:ls.length=g.length):Se g i ls 0=ls:=by
 apply GL
 intro k
 by_cases hk:k < g.length
 · rw [M9 g i ls 0 hk]
   have:ls[k]?=some ls[k]:=by simp [h,hk]
   rw [this]
   simp [lsB,Bq,this]
 · rw [BP (by rw [JX];omega),BP (by omega)]
theorem iD {g:List (List Nat)} {i:Nat} {ls:List Bool} {j:Nat} (hj:j < g.length):Se g i ls (j+1)=if LO g i j then (Se g i ls j).set j true else Se g i ls j:=by
 apply GL
 intro k
 by_cases hk:k < g.length
 · rw [M9 g i ls _ hk]
   cases hm:LO g i j with
   |true=>
    rw [if_pos rfl,B5]
    by_cases hjk:j=k
    · subst hjk
      rw [if_pos rfl,if_pos (by rw [JX];exact hj)]
      simp [hm]
    · rw [if_neg hjk,M9 g i ls _ hk]
      have:decide (k < j+1)=decide (k < j):=decide_eq_decide.2 (by omega)
      rw [this]
   |false=>
    rw [if_neg (by simp),M9 g i ls _ hk]
    by_cases hjk:j=k
    · subst hjk;simp [hm]
    · have:decide (k < j+1)=decide (k < j):=decide_eq_decide.2 (by omega)
      rw [this]
 · have hl:(if LO g i j=true then (Se g i ls j).set j true else Se g i ls j).length=g.length:=by
    split
    · rw [List.length_set,JX]
    · rw [JX]
   rw [BP (by rw [JX];omega),BP (by omega)]
theorem iF (g:List (List Nat)) (i:Nat):LO g i i=true:=by
 simp [LO,l6.2 (Reach.refl i)]
theorem UO {ls:List Bool} {k:Nat} {b:Bool} (h:ls[k]?=some b):lsB ls k=b:=by simp [lsB,Bq,h]
theorem mM:∀ {R R':List Bool} {v:Nat},R'.length=R.length→(∀k:Nat,R[k]?=some true→R'[k]?=some true)→R[v]?=some false→R'[v]?=some true→unm R' < unm R
 |[],R',v,h,hm,hv,_=>by simp at hv
 |b::R,[],v,h,_,_,_=>by simp at h
 |b::R,c::R',0,h,hm,hv,hv'=>by
  simp at hv hv';subst hv;subst hv'
  have:=dW (R:=R) (R':=R') (by simpa using h) (fun k hk=>by simpa using hm (k+1) (by simpa using hk))
  simp [unm] at this ⊢;omega
 |b::R,c::R',v+1,h,hm,hv,hv'=>by
  have:=mM (R:=R) (R':=R') (v:=v) (by simpa using h) (fun k hk=>by simpa using hm (k+1) (by simpa using hk)) (by simpa using hv) (by simpa using hv')
  have h0:=hm 0
  cases b<;>cases c<;>simp [unm] at this h0 ⊢<;>omega
theorem oQ {g:List (List Nat)} {i:Nat} {ls:List Bool} (hl:ls.length=g.length) (hi:i < g.length) (h:lsB ls i=false):unm (Y6 g i ls) < unm ls:=by
 have hgi:ls[i]?=some false:=by
  have h1:ls[i]?=some ls[i]:=by simp [hl,hi]
  have:=UO h1
  rw [h1,← this,h]
 refine mM (v:=i) (by rw [Y6,JX,hl]) (fun k hk=>?_) hgi ?_
 · have hkl:k < g.length:=by have:=(AR.1 hk).1;omega
   rw [Y6,M9 g i ls _ hkl,UO hk];rfl
 · rw [Y6,M9 g i ls _ hi,h,iF];simp [hi]
theorem nM {p:Nat→Bool} {n i:Nat} (hi:i < n) (hp:p i=true) (hn:∀k,k < i→p k=false):(BI n).find? p=some i:=by
 rw [List.find?_range_eq_some]
 exact ⟨hp,by simpa using hi,fun j hj=>by simp [hn j hj]⟩
theorem gM {p:Nat→Bool} {n:Nat} (hn:∀k,k < n→p k=false):(BI n).find? p=none:=by
 rw [List.find?_eq_none];intro x hx;rw [Gt] at hx;simp [hn x hx]
end Go.Ab
namespace Go.Ab
open Go.Proofs
theorem Rp {g:List (List Nat)} {i k:Nat} (hk:k < g.length):(Zt g i)[k]?=some (rB g i k):=by
 rw [Zt,Ad,DL hk];rfl
theorem RS.at {σ τ:AF} {g:List (List Nat)} {j1 j3 j4 jr:Nat} {cells:List AV} (h:RS σ g j1 j3 j4 jr g.length g.length cells τ) {i:Nat} (hi:i < g.length):∃ji,cells[i]?=some (.ms ji g.length 1 4)∧τ.blk ji=some (B3 (Zt g i)):=by
 obtain ⟨ji,h1,h2,_⟩:=h.rows i hi
 exact ⟨ji,h1,h2⟩
theorem ilT {i n:Nat} (h:i < n):((i:Int) < (n:Int))=True:=by simp only [eq_iff_iff,iff_true];omega
theorem kD (g:List (List Nat)) (hgl:g.length≤1000) (j1 j3 j4 jr j7 jl:Nat) (σ τ:AF) (cells:List AV) (h:RS σ g j1 j3 j4 jr g.length g.length cells τ) (ls:List Bool) (hls:ls.length=g.length) (h7:τ.blk j7=some [.ms jl g.length 1 4]) (hl:τ.blk jl=some (B3 ls)) (i:Nat) (hi:i < g.length):
 AK Tryz.prog 70 [.d (.int .i64 i),.gp j3 0,.gp j4 0,.gp j7 0] τ (fun v σ'=>v= .d (.bool (dH g ls i))∧σ'=τ):=by
 obtain ⟨ji,hci,hbi⟩:=h.at hi
 have hil:=ilT hi
 refine Ok (by simp) ?_
 rw [jV]
 (repeat' (first|refine Run.ct rfl ?_|((first|refine Run.reg mixed ?_|refine Run.AD ?_)<;>try simp -implicitDefEqProofs only [h.b3,go_sem])|fail))
 refine Run.Ay ?_
 refine Run.BB ((fun (a0:AV) (a2:AV) (a3:AV) (a7:AV)=>fun (j:Nat)=>put 0 a0 (put 2 a2 (put 3 a3 (put 7 a7 (put 8 (.d (.int .i64 j)) U))))) _ _ _ _) (fun _=>E) (fun _=>τ) (fun j=>j≤g.length∧∀k,k < j→((rB g i k&& !rB g k i)&& !lsB ls k)=false) (fun j=>g.length - j) ?_ 0 ⟨by simp,fun k hk=>by omega⟩
 rintro j ⟨hj,hno⟩ ih
 by_cases hlt:j < g.length
 · obtain ⟨jj,hcj,hbj⟩:=h.at hlt
   have hjl:=ilT hlt
   have hw1:=A7 (show j+1≤9000000000000000000 by omega)
   have e1:=Ev (Rp (i:=i) hlt)
   have e2:=Ev (Rp (i:=j) hi)
   obtain ⟨bl,hbl⟩:=Aw (show j < ls.length by omega)
   have e3:=Ev hbl
   rw [← UO hbl] at e3
   have hnx:((rB g i j&& !rB g j i)&& !lsB ls j)=false→∀k,k < j+1→((rB g i k&& !rB g k i)&& !lsB ls k)=false:=fun h0 k hk=>by
    rcases Bt k j with h|h
    · exact hno k h
    · have:k=j:=by omega
      subst this;exact h0
   cases c1:rB g i j with
   |false=>
    rw [c1] at e1
    (repeat' (first|refine Run.ct rfl ?_|((first|refine Run.reg mixed ?_|refine Run.AD ?_)<;>try simp -implicitDefEqProofs only [A8 hlt,h.b4,h.br,hci,hbi,hcj,hbj,hil,hjl,e1,hw1,BQ,go_sem])|fail))
    exact ih (j+1) ⟨by omega,hnx (by rw [c1];rfl)⟩ (by omega)
   |true=>
   rw [c1] at e1
   cases c2:rB g j i with
   |true=>
    rw [c2] at e2
    (repeat' (first|refine Run.ct rfl ?_|((first|refine Run.reg mixed ?_|refine Run.AD ?_)<;>try simp -implicitDefEqProofs only [A8 hlt,h.b4,h.br,hci,hbi,hcj,hbj,hil,hjl,e1,e2,hw1,BQ,go_sem])|fail))
    exact ih (j+1) ⟨by omega,hnx (by rw [c1,c2];rfl)⟩ (by omega)
   |false=>
   rw [c2] at e2
   cases c3:lsB ls j with
   |true=>
    rw [c3] at e3
    (repeat' (first|refine Run.ct rfl ?_|((first|refine Run.reg mixed ?_|refine Run.AD ?_)<;>try simp -implicitDefEqProofs only [A8 hlt,h.b4,h.br,hci,hbi,hcj,hbj,h7,hl,hil,hjl,e1,e2,e3,hw1,BQ,go_sem])|fail))
    exact ih (j+1) ⟨by omega,hnx (by rw [c1,c2,c3];rfl)⟩ (by omega)
   |false=>
    rw [c3] at e3
    have hr:dH g ls i=false:=by
     rw [dH,Bw]
     intro ha
     rw [Aj] at ha
     have:=ha j (Gt.2 hlt)
     rw [c1,c2,c3] at this;cases this
    (repeat' (first|refine Run.ct rfl ?_|((first|refine Run.reg mixed ?_|refine Run.AD ?_|refine Run.Er GZ (AF.le_refl _) ?_)<;>try simp -implicitDefEqProofs only [A8 hlt,h.b4,h.br,hci,hbi,hcj,hbj,h7,hl,hil,hjl,e1,e2,e3,hw1,BQ,go_sem])|fail))
    rw [hr]
 · have hr:dH g ls i=true:=by
    rw [dH,Aj]
    intro k hk
    rw [Gt] at hk
    rw [hno k (by omega)];rfl
   (repeat' (first|refine Run.ct rfl ?_|((first|refine Run.reg mixed ?_|refine Run.AD ?_|refine Run.Er GZ (AF.le_refl _) ?_)<;>try simp -implicitDefEqProofs only [B8 hlt,go_sem])|fail))
   rw [hr]
theorem RS.tok {σ τ τ':AF} {g:List (List Nat)} {j1 j3 j4 jr i m:Nat} {cells:List AV} (h:RS σ g j1 j3 j4 jr i m cells τ) (hb:∀q,τ'.blk q=τ.blk q) (hle:σ.le τ'):RS σ g j1 j3 j4 jr i m cells τ':=
 ⟨(hb j1).trans h.b1,(hb j3).trans h.b3,(hb j4).trans h.b4,(hb jr).trans h.br,h.cl,fun k hk=>by
   obtain ⟨jk,h1,h2,h3⟩:=h.rows k hk
   exact ⟨jk,h1,(hb jk).trans h2,h3⟩,h.rest,hle,h.nr,h.n1,h.n3,h.n4⟩
theorem Gp.set {σ0 τ:AF} {l:List Ow} (h:Gp σ0 l τ) {j:Nat} (hj:σ0.blk j=none) (cs:List AV):Gp σ0 l (τ.AQ j cs):=⟨fun x hx=>(h.1 x hx).set hj cs,h.2⟩
structure LS (σ:AF) (g:List (List Nat)) (j1 j3 j4 jr j7 jl:Nat) (cells:List AV) (ls:List Bool) (τ:AF):Prop where
 rs:RS σ g j1 j3 j4 jr g.length g.length cells τ
 b7:τ.blk j7=some [.ms jl g.length 1 4]
 bl:τ.blk jl=some (B3 ls)
 ll:ls.length=g.length
 nl:σ.blk jl=none
 n1:jl≠j1
 n3:jl≠j3
 n4:jl≠j4
 nr:jl≠jr
 n7:jl≠j7
 nk:∀k jk,k < g.length→cells[k]?=some (.ms jk g.length 1 4)→jk≠jl
theorem LS.set {σ:AF} {g:List (List Nat)} {j1 j3 j4 jr j7 jl:Nat} {cells:List AV} {ls:List Bool} {τ:AF} (h:LS σ g j1 j3 j4 jr j7 jl cells ls τ) (ls':List Bool) (hl:ls'.length=g.length):LS σ g j1 j3 j4 jr j7 jl cells ls' (τ.AQ jl (B3 ls')):=
 ⟨h.rs.new h.nl h.n1 h.n3 h.n4 h.nr h.nk _,by rw [AP,if_neg (CO h.n7)];exact h.b7,by rw [AP,if_pos rfl],hl,h.nl,h.n1,h.n3,h.n4,h.nr,h.n7,h.nk⟩
theorem LS.tok {σ:AF} {g:List (List Nat)} {j1 j3 j4 jr j7 jl:Nat} {cells:List AV} {ls:List Bool} {τ τ':AF} (h:LS σ g j1 j3 j4 jr j7 jl cells ls τ) (hb:∀q,τ'.blk q=τ.blk q) (hle:σ.le τ'):LS σ g j1 j3 j4 jr j7 jl cells ls τ':=
 ⟨h.rs.tok hb hle,(hb j7).trans h.b7,(hb jl).trans h.bl,h.ll,h.nl,h.n1,h.n3,h.n4,h.nr,h.n7,h.nk⟩
theorem nA (Q:AV→AF→Prop) (rest:List CI) (g:List (List Nat)) (hgl:g.length≤1000) (j1 j3 j4 jr j7 jl:Nat) (σ τ:AF) (cells:List AV) (ls:List Bool) (h:LS σ g j1 j3 j4 jr j7 jl cells ls τ) (i:Nat) (hi:i < g.length) (fnv outv:AV) (orows:List (List DV)) (ho:Gp σ [⟨35,1,orows,outv⟩] τ) (hfn:∀k,fnv.BG k=false)
 (hfin:∀gv τ',LS σ g j1 j3 j4 jr j7 jl cells (Y6 g i ls) τ'→Gp σ [⟨3,1,(nO g i).map JY,gv⟩,⟨35,1,orows,outv⟩] τ'→Run B4 Q rest (put 3 (.gp j3 0) (put 4 (.gp j4 0) (put 7 (.gp j7 0) (put 8 fnv (put 9 outv (put 10 (.d (.int .i64 i)) (put 11 gv (put 50 (.d (.int .i64 g.length)) (put 51 (.d (.int .i64 g.length)) (put 52 (.d (.bool false)) U)))))))))) E τ'):
 Run B4 Q (.code (.loop IX)::.blk 4::rest) (put 3 (.gp j3 0) (put 4 (.gp j4 0) (put 7 (.gp j7 0) (put 8 fnv (put 9 outv (put 10 (.d (.int .i64 i)) (put 11 .AU (put 50 (.d (.int .i64 g.length)) (put 51 (.d (.int .i64 0)) U))))))))) E τ:=by
 have hol:=fun k=>ho.head.BG k
 simp only at hol
 have hil:=ilT hi
 refine Run.Ay ?_
 refine Run.BB ((fun (a3:AV) (a4:AV) (a7:AV) (a8:AV) (a9:AV) (a10:AV) (a50:AV)=>fun (y:Nat×AV×AF)=>put 3 a3 (put 4 a4 (put 7 a7 (put 8 a8 (put 9 a9 (put 10 a10 (put 11 (y.2.1) (put 50 a50 (put 51 (.d (.int .i64 y.1)) U))))))))) _ _ _ _ _ _ _) (fun _=>E) (fun y=>y.2.2)
  (fun y=>y.1≤g.length∧LS σ g j1 j3 j4 jr j7 jl cells (Se g i ls y.1) y.2.2∧Gp σ [⟨3,1,((BI y.1).filter (LO g i)).map JY,y.2.1⟩,⟨35,1,orows,outv⟩] y.2.2) (fun y=>g.length - y.1) ?_ (0,.AU,τ) ⟨by simp,by rw [iE h.ll];exact h,ho.nil h.rs.le _ _⟩
 rintro ⟨j,gv,τ⟩ ⟨hj,hL,hO⟩ ih
 simp only at hj hL hO
 have hgo:=hO.head
 simp only at hgo
 by_cases hlt:j < g.length
 · obtain ⟨ji,hci,hbi⟩:=hL.rs.at hi
   obtain ⟨jj,hcj,hbj⟩:=hL.rs.at hlt
   have hjl:=ilT hlt
   have hw1:=A7 (show j+1≤9000000000000000000 by omega)
   have e1:=Ev (Rp (i:=i) hlt)
   have e2:=Ev (Rp (i:=j) hi)
   have hst:=iD (i:=i) (ls:=ls) hlt
   have hfs:(BI (j+1)).filter (LO g i)=if LO g i j then (BI j).filter (LO g i)++[j] else (BI j).filter (LO g i):=by
    rw [List.range_succ,LJ]
    cases hm:LO g i j<;>simp [hm]
   have hih:=fun gv' τ' h1 h2=>ih (j+1,gv',τ') ⟨by simp only;omega,h1,h2⟩ (by simp only;omega)
   simp only at hih
   rw [hst,hfs] at hih
   cases c1:rB g i j with
   |false=>
    have hm:LO g i j=false:=by simp [LO,c1]
    rw [c1] at e1
    rw [hm] at hih
    (repeat' (first|refine Run.ct rfl ?_|((first|refine Run.reg mixed ?_|refine Run.AD ?_)<;>try simp -implicitDefEqProofs only [A8 hlt,hL.rs.b4,hL.rs.br,hci,hbi,hcj,hbj,hil,hjl,e1,hw1,BQ,hol,hgo.BG,hfn,go_sem])|fail))
    exact hih _ _ hL hO
   |true=>
   rw [c1] at e1
   cases c2:rB g j i with
   |false=>
    have hm:LO g i j=false:=by simp [LO,c2]
    rw [c2] at e2
    rw [hm] at hih
    (repeat' (first|refine Run.ct rfl ?_|((first|refine Run.reg mixed ?_|refine Run.AD ?_)<;>try simp -implicitDefEqProofs only [A8 hlt,hL.rs.b4,hL.rs.br,hci,hbi,hcj,hbj,hil,hjl,e1,e2,hw1,BQ,hol,hgo.BG,hfn,go_sem])|fail))
    exact hih _ _ hL hO
   |true=>
    have hm:LO g i j=true:=by simp [LO,c1,c2]
    rw [c2] at e2
    rw [hm] at hih
    simp only [if_true] at hih
    have hflen:(((BI j).filter (LO g i)).map JY).length≤1000:=by
     have:=List.length_filter_le (LO g i) (BI j)
     rw [List.length_range] at this
     rw [AA];omega
    have hjm:j < (Se g i ls j).length:=by rw [JX];exact hlt
    have hb7:=hL.b7
    have hbl:=hL.bl
    have w1:=XM true hjm
    have d1:=ZD hjm
    (repeat' (first|refine Run.ct rfl ?_|((first|refine Run.reg mixed ?_|refine Run.AD ?_|(refine Dh.iL (cx:=B4) hO rfl (by simp) (by simp only [A5,CQ];omega) (by decide) (fun v2 τ2 ho2 hbk=>?_)))<;>try simp -implicitDefEqProofs only [A8 hlt,hL.rs.b4,hL.rs.br,hci,hbi,hcj,hbj,hil,hjl,e1,e2,hw1,BQ,hol,hgo.BG,hfn,go_sem])|fail))
    have hL2:=hL.tok hbk ho2.head.le
    have h2l:=ho2.head.BG
    simp only at h2l
    simp -implicitDefEqProofs only [hL2.b7,hL2.bl,hjl,w1,d1,BQ,go_sem]
    (repeat' (first|refine Run.ct rfl ?_|((first|refine Run.reg mixed ?_|refine Run.AD ?_)<;>try simp -implicitDefEqProofs only [hL2.b7,hL2.bl,hjl,w1,d1,hw1,BQ,hol,h2l,hfn,go_sem])|fail))
    exact hih _ _ (hL2.set _ (by rw [List.length_set,JX])) (by
     rw [CR]
     exact ho2.set hL.nl _)
 · have hje:j=g.length:=by omega
   subst hje
   have:=hfin gv τ hL hO
   (repeat' (first|refine Run.ct rfl ?_|((first|refine Run.reg mixed ?_|refine Run.AD ?_)<;>try simp -implicitDefEqProofs only [B8 hlt,hol,hgo.BG,hfn,go_sem])|fail))
   exact this
theorem nB (Q:AV→AF→Prop) (rest:List CI) (g:List (List Nat)) (hgl:g.length≤1000) (j1 j3 j4 jr j7 jl:Nat) (σ τ:AF) (cells:List AV) (h:LS σ g j1 j3 j4 jr j7 jl cells (AO g.length false) τ)
 (hfin:∀outv τ',σ.le τ'→Cl σ 35 1 ((Uy g).map Md) outv τ'→Run B4 Q rest (put 3 (.gp j3 0) (put 4 (.gp j4 0) (put 7 (.gp j7 0) (put 8 (.fn 70 [] [.gp j3 0,.gp j4 0,.gp j7 0]) (put 9 outv (put 10 (.d (.int .i64 g.length)) (put 37 (.d (.bool false)) U))))))) E τ'):
 Run B4 Q (.code (.loop IY)::.blk 2::rest) (put 3 (.gp j3 0) (put 4 (.gp j4 0) (put 7 (.gp j7 0) (put 8 (.fn 70 [] [.gp j3 0,.gp j4 0,.gp j7 0]) (put 9 .AU (put 10 (.d (.int .i64 0)) U)))))) E τ:=by
 refine Run.Ay ?_
 refine Run.BB ((fun (a3:AV) (a4:AV) (a7:AV) (a8:AV)=>fun (y:Nat×List Bool×List (List Nat)×Nat×AV×AF)=>put 3 a3 (put 4 a4 (put 7 a7 (put 8 a8 (put 9 (y.2.2.2.2.1) (put 10 (.d (.int .i64 y.1)) U)))))) _ _ _ _) (fun _=>E) (fun y=>y.2.2.2.2.2)
  (fun y=>y.1≤g.length∧LS σ g j1 j3 j4 jr j7 jl cells y.2.1 y.2.2.2.2.2∧Cl σ 35 1 (y.2.2.1.map Md) y.2.2.2.2.1 y.2.2.2.2.2∧Uy g=y.2.2.1++SO g y.2.2.2.1 y.2.1∧unm y.2.1 < y.2.2.2.1∧y.2.2.1.length+unm y.2.1≤g.length∧∀k,k < y.1→bJ g y.2.1 k=false)
  (fun y=>unm y.2.1 * (g.length+1)+(g.length - y.1)) ?_ (0,AO g.length false,[],g.length+1,.AU,τ) ⟨by simp,h,⟨⟨τ,rfl,h.rs.le⟩,h.rs.le,rfl,rfl,rfl,rfl,fun _=>rfl,rfl,rfl⟩,rfl,by simp [unm],by simp [unm],fun k hk=>by simp only at hk;omega⟩
 clear h
 rintro ⟨i,ls,out,f,outv,τ⟩ ⟨hi,hL,ho,hcp,hf,hol,hno⟩ ih
 simp only at hi hL ho hcp hf hol hno
 by_cases hlt:i < g.length
 · have hil:=ilT hlt
   have hw1:=A7 (show i+1≤9000000000000000000 by omega)
   obtain ⟨b,hb⟩:=Aw (show i < ls.length by rw [hL.ll];exact hlt)
   have eb:=Ev hb
   rw [← UO hb] at eb
   have hskip:bJ g ls i=false→_:=fun hc=>ih (i+1,ls,out,f,outv,τ) ⟨by simp only;omega,hL,ho,hcp,hf,hol,fun k hk=>by
    simp only at hk
    rcases Bt k i with h|h
    · exact hno k h
    · have:k=i:=by omega
      subst this;exact hc⟩ (by simp only;omega)
   simp only at hskip
   cases hb1:lsB ls i with
   |true=>
    rw [hb1] at eb
    (repeat' (first|refine Run.ct rfl ?_|((first|refine Run.reg mixed ?_|refine Run.AD ?_)<;>try simp -implicitDefEqProofs only [A8 hlt,hL.rs.b3,hL.b7,hL.bl,hil,eb,hw1,BQ,ho.BG,go_sem])|fail))
    exact hskip (by simp [bJ,hb1])
   |false=>
   rw [hb1] at eb
   have hrd:=kD g hgl j1 j3 j4 jr j7 jl σ τ cells hL.rs ls hL.ll hL.b7 hL.bl i hlt
   cases hr:dH g ls i with
   |false=>
    rw [hr] at hrd
    (repeat' (first|refine Run.ct rfl ?_|((first|refine Run.reg mixed ?_|refine Run.AD ?_|(refine ⟨_,[],[.gp j3 0,.gp j4 0,.gp j7 0],rfl,by kernel_rfl,AI.det hrd ?_⟩))<;>try simp -implicitDefEqProofs only [A8 hlt,hL.rs.b3,hL.b7,hL.bl,hil,eb,hw1,BQ,ho.BG,go_sem])|fail))
    exact hskip (by simp [bJ,hr])
   |true=>
    rw [hr] at hrd
    have hcan:bJ g ls i=true:=by simp [bJ,hb1,hr]
    have hnx:qO g ls=some i:=nM hlt hcan hno
    obtain ⟨f,rfl⟩:∃f',f=f'+1:=⟨f - 1,by omega⟩
    have hcp2:Uy g=(out++[nO g i])++SO g f (Y6 g i ls):=by
     rw [hcp,SO,hnx];simp
    have hum:=oQ hL.ll hlt hb1
    have hm1:IntKind.i64.wrap ((-1:Int)+1)=((0:Nat):Int):=by decide
    (repeat' (first|refine Run.ct rfl ?_|((first|refine Run.reg mixed ?_|refine Run.AD ?_|(refine ⟨_,[],[.gp j3 0,.gp j4 0,.gp j7 0],rfl,by kernel_rfl,AI.det hrd ?_⟩))<;>try simp -implicitDefEqProofs only [A8 hlt,hL.rs.b3,hL.b7,hL.bl,hil,eb,hw1,BQ,ho.BG,go_sem])|fail))
    refine nA Q _ g hgl j1 j3 j4 jr j7 jl σ τ cells ls hL i hlt _ outv (out.map Md) ⟨fun x hx=>by simp only [B6] at hx;subst hx;exact ho,List.pairwise_singleton _ _⟩ (fun _=>rfl) (fun gv τ2 hL2 hO2=>?_)
    have hg2:=hO2.head
    have ho2:=hO2.tail.head
    simp only at hg2 ho2
    (repeat' (first|refine Run.ct rfl ?_|((first|refine Run.reg mixed ?_|refine Run.AD ?_|(refine Dh.own ho2 rfl (by simp) (by simp;omega) (by decide) (fun v4 τ4 ho4 hbk4=>?_)))<;>try simp -implicitDefEqProofs only [hm1,ho2.BG,hg2.BG,hg2.cell,hg2.cells,hg2.dv,hg2.BF,BQ,go_sem])|fail))
    (repeat' (first|refine Run.ct rfl ?_|((first|refine Run.reg mixed ?_|refine Run.AD ?_)<;>try simp -implicitDefEqProofs only [hm1,ho4.BG,go_sem])|fail))
    refine ih (0,Y6 g i ls,out++[nO g i],f,v4,τ4) ⟨by simp,hL2.tok hbk4 ho4.le,by simp only [CR];exact ho4,hcp2,by simp only;omega,by simp only [AT,A5,CQ];omega,fun k hk=>by simp only at hk;omega⟩ ?_
    simp only
    have:(unm (Y6 g i ls)+1) * (g.length+1)≤unm ls * (g.length+1):=BN _ hum
    rw [Jb] at this
    omega
 · have hie:i=g.length:=by omega
   subst hie
   obtain ⟨f,rfl⟩:∃f',f=f'+1:=⟨f - 1,by omega⟩
   have hnx:qO g ls=none:=gM hno
   rw [SO,hnx,At] at hcp
   have:=hfin outv τ ho.le (by rw [hcp];exact ho)
   (repeat' (first|refine Run.ct rfl ?_|((first|refine Run.reg mixed ?_|refine Run.AD ?_)<;>try simp -implicitDefEqProofs only [B8 hlt,hL.rs.b3,ho.BG,go_sem])|fail))
   exact this
end Go.Ab
namespace Go.Ab
open Go.Proofs
theorem lM (n:Nat):(AO n [AV.AU]).flatten=AO n AV.AU:=by
 induction n with
 |zero=>rfl
 |succ n ih=>rw [Eu,Em,ih];rfl
theorem Pu (g:List (List Nat)) (hg:TH g) (hgl:g.length≤1000) (hll:∀l∈g,l.length≤1000) (σ:AF):
 AK Tryz.prog 35 [.d (.sl (g.map Md))] σ (fun v σ'=>v= .d (.sl ((Uy g).map Md))∧σ'=σ):=by
 refine Qi (by simp) ?_
 rw [Bf]
 generalize hQ:(fun (v:AV) (σ':AF)=>v= .d (.sl ((Uy g).map Md))∧σ'=σ)=Q
 have hok:Q (.d (.sl ((Uy g).map Md))) σ:=by rw [← hQ];exact ⟨rfl,rfl⟩
 clear hQ
 have hbt:∀(τ:AF) (j:Nat) (x:Nat×TypeId) (q:Nat),(τ.DO j x).blk q=τ.blk q:=fun _ _ _ _=>rfl
 (repeat' (first|refine Run.ct rfl ?_|((first|refine Run.reg mixed ?_|refine Run.AD ?_)<;>try simp -implicitDefEqProofs only [go_sem])|fail))
 intro j1 hj1
 have hle1:=Bp (cs:=[AV.d (.sl (g.map Md))]) hj1
 have hb1:(σ.AQ j1 [AV.d (.sl (g.map Md))]).blk j1=some [AV.d (.sl (g.map Md))]:=by rw [AP,if_pos rfl]
 generalize σ.AQ j1 [AV.d (.sl (g.map Md))]=τ1 at hle1 hb1 ⊢
 (repeat' (first|refine Run.ct rfl ?_|((first|refine Run.reg mixed ?_|refine Run.AD ?_)<;>try simp -implicitDefEqProofs only [hb1,AA,go_sem])|fail))
 rintro j3 ⟨hj3,hjb3⟩
 have hj30:=hle1.none hj3
 have n13:j1≠j3:=fun e=>by rw [← e,hb1] at hj3;cases hj3
 have hle3:σ.le (((τ1.AQ j3 [AV.d (.int .i64 0)]).DO j3 (1,3)).AQ j3 [.d (.int .i64 g.length)]):=Dc (Rk (Dc hle1 hj30) hjb3) hj30
 have hb13:(((τ1.AQ j3 [AV.d (.int .i64 0)]).DO j3 (1,3)).AQ j3 [.d (.int .i64 g.length)]).blk j1=some [AV.d (.sl (g.map Md))]:=by rw [AP,if_neg n13,hbt,AP,if_neg n13];exact hb1
 have hb3:(((τ1.AQ j3 [AV.d (.int .i64 0)]).DO j3 (1,3)).AQ j3 [.d (.int .i64 g.length)]).blk j3=some [.d (.int .i64 g.length)]:=by rw [AP,if_pos rfl]
 simp -implicitDefEqProofs only [hbt,AP,go_sem]
 generalize ((τ1.AQ j3 [AV.d (.int .i64 0)]).DO j3 (1,3)).AQ j3 [AV.d (.int .i64 g.length)]=τ3 at hle3 hb13 hb3 ⊢
 clear hb1 hle1
 (repeat' (first|refine Run.ct rfl ?_|((first|refine Run.reg mixed ?_|refine Run.AD ?_|(refine UZ.mk (n:=g.length) (by omega) (by omega) (fun jr hjr=>?_)))<;>try simp -implicitDefEqProofs only [hb3,AA,go_sem])|fail))
 rw [lM]
 have hjr0:=hle3.none hjr
 have nr1:jr≠j1:=fun e=>by rw [e,hb13] at hjr;cases hjr
 have nr3:jr≠j3:=fun e=>by rw [e,hb3] at hjr;cases hjr
 rintro j4 ⟨hj4,hjb4⟩
 replace hj4:(τ3.AQ jr (AO g.length AV.AU)).blk j4=none:=by rw [AP];exact hj4
 have hle4:=Dc (cs:=AO g.length AV.AU) hle3 hjr0
 have hb14:=H0 hb13 hjr (AO g.length AV.AU)
 have hb34:=H0 hb3 hjr (AO g.length AV.AU)
 have hbr:(τ3.AQ jr (AO g.length AV.AU)).blk jr=some (AO g.length AV.AU):=by rw [AP,if_pos rfl]
 generalize τ3.AQ jr (AO g.length AV.AU)=τ4 at hle4 hb14 hb34 hbr hj4 hjb4 ⊢
 clear hb13 hb3 hle3 hjr
 have hj40:=hle4.none hj4
 have n14:j1≠j4:=fun e=>by rw [← e,hb14] at hj4;cases hj4
 have n34:j3≠j4:=fun e=>by rw [← e,hb34] at hj4;cases hj4
 have nr4:jr≠j4:=fun e=>by rw [← e,hbr] at hj4;cases hj4
 have hrs:RS σ g j1 j3 j4 jr 0 0 (AO g.length AV.AU) (((τ4.AQ j4 [AV.AU]).DO j4 (1,141)).AQ j4 [AV.ms jr g.length 1 78]):=
  ⟨by rw [AP,if_neg n14,hbt,AP,if_neg n14];exact hb14,by rw [AP,if_neg n34,hbt,AP,if_neg n34];exact hb34,by rw [AP,if_pos rfl],by rw [AP,if_neg nr4,hbt,AP,if_neg nr4];exact hbr,by simp,fun k hk=>by omega,fun k _ hk=>by simp [hk],Dc (Rk (Dc hle4 hj40) hjb4) hj40,hjr0,nr1,nr3,nr4⟩
 simp -implicitDefEqProofs only [hbt,AP,go_sem]
 generalize ((τ4.AQ j4 [AV.AU]).DO j4 (1,141)).AQ j4 [AV.ms jr g.length 1 78]=τ5 at hrs ⊢
 clear hle4 hb14 hb34 hbr hj4 hjb4
 (repeat' (first|refine Run.ct rfl ?_|((first|refine Run.reg mixed ?_|refine Run.AD ?_)<;>try simp -implicitDefEqProofs only [hrs.b4,hrs.b3,hrs.b1,go_sem])|fail))
 refine m9 Q _ g hg hgl hll j1 j3 j4 jr σ τ5 _ hrs (fun cells τ6 hrs=>?_)
 (repeat' (first|refine Run.ct rfl ?_|((first|refine Run.reg mixed ?_|refine Run.AD ?_|(refine UZ.mk (n:=g.length) (by omega) (by omega) (fun jl hjl=>?_)))<;>try simp -implicitDefEqProofs only [hrs.b3,go_sem])|fail))
 rw [PS]
 obtain ⟨f1,f2,f3,f4,f5,f6⟩:=hrs.fresh hjl
 have hrs2:=hrs.new f1 f2 f3 f4 f5 f6 (B3 (AO g.length false))
 rintro j7 ⟨hj7,hjb7⟩
 replace hj7:(τ6.AQ jl (B3 (AO g.length false))).blk j7=none:=by rw [AP];exact hj7
 have hbl:(τ6.AQ jl (B3 (AO g.length false))).blk jl=some (B3 (AO g.length false)):=by rw [AP,if_pos rfl]
 generalize τ6.AQ jl (B3 (AO g.length false))=τ7 at hrs2 hbl hj7 hjb7 ⊢
 obtain ⟨e1,e2,e3,e4,e5,e6⟩:=hrs2.fresh hj7
 have nl7:jl≠j7:=fun e=>by rw [← e,hbl] at hj7;cases hj7
 have hrs3:=((hrs2.new e1 e2 e3 e4 e5 e6 [.AU]).bt (x:=(1,78)) hjb7).new e1 e2 e3 e4 e5 e6 [AV.ms jl g.length 1 4]
 have hls:LS σ g j1 j3 j4 jr j7 jl cells (AO g.length false) (((τ7.AQ j7 [AV.AU]).DO j7 (1,78)).AQ j7 [AV.ms jl g.length 1 4]):=
  ⟨hrs3,by rw [AP,if_pos rfl],by rw [AP,if_neg nl7,hbt,AP,if_neg nl7];exact hbl,by simp,f1,f2,f3,f4,f5,nl7,f6⟩
 simp -implicitDefEqProofs only [hbt,AP,go_sem]
 generalize ((τ7.AQ j7 [AV.AU]).DO j7 (1,78)).AQ j7 [AV.ms jl g.length 1 4]=τ8 at hls ⊢
 clear hrs hrs2 hrs3 hbl hjl hj7 hjb7
 (repeat' (first|refine Run.ct rfl ?_|((first|refine Run.reg mixed ?_|refine Run.AD ?_)<;>try simp -implicitDefEqProofs only [go_sem])|fail))
 refine nB Q _ g hgl j1 j3 j4 jr j7 jl σ τ8 cells hls (fun outv τ9 hle ho=>?_)
 (repeat' (first|refine Run.ct rfl ?_|((first|refine Run.reg mixed ?_|refine Run.AD ?_|(refine Run.A1 Kj (σ2:=σ) hle ?_))<;>try simp -implicitDefEqProofs only [ho.BG,go_sem])|fail))
 simp -implicitDefEqProofs only [ho.BF,ho.plain,go_sem]
 exact hok
theorem ZH {fs:List FE} {f:FE}:(MT fs f).length≤fs.length∧∀w∈MT fs f,w < fs.length:=by
 refine ⟨by rw [MT];exact BY (List.length_filter_le _ _) (by simp),fun w hw=>?_⟩
 rw [MT,List.mem_filter,Gt] at hw
 exact hw.1
theorem ZI (p:Pg):TH (Ez p):=by
 intro l hl w hw
 unfold Ez at hl ⊢
 split at hl
 · rename_i h
   rw [if_pos h,AA]
   obtain ⟨f,_,rfl⟩:=CN.1 hl
   exact ZH.2 w hw
 · cases hl
theorem TO (l:List (List Nat)):Kf l= .d (.sl (l.map Md)):=rfl
end Go.Ab
namespace Go.Ab
open Go.Proofs
theorem ZJ (p:Pg):(Ez p).length≤24:=by
 by_cases hc0:(KJ p).1=0
 · have:=(Qe hc0).1
   unfold Ez
   rw [if_pos hc0,AA];exact this
 · unfold Ez;rw [if_neg hc0];simp
theorem YE (p:Pg):∀l∈Ez p,l.length≤24:=by
 intro l hl
 by_cases hc0:(KJ p).1=0
 · have:=(Qe hc0).1
   unfold Ez at hl
   rw [if_pos hc0] at hl
   obtain ⟨f,_,rfl⟩:=CN.1 hl
   exact BY ZH.1 this
 · unfold Ez at hl;rw [if_neg hc0] at hl;cases hl
noncomputable def KO (p:Pg):List (List Nat):=Uy (Ez p)
theorem Nr (p:Pg) (σ:AF) (h:∀d∈p.data,HT d):AK Tryz.prog 12 [pgA p] σ (fun v σ'=>v=Kf (KO p)∧σ'=σ):=by
 have hcl:=fun σ=>Kw p σ h
 have hco:=fun σ=>Pu (Ez p) (ZI p) (BY (ZJ p) (by decide)) (fun l hl=>BY (YE p l hl) (by decide)) σ
 refine VO (by simp) ?_
 rw [Bf]
 rw [KO,TO]
 simp only [TO] at hcl
 obtain ⟨ds,fs⟩:=p
 simp only [pgA,Pg.enc,AH,AM] at hcl ⊢
 (repeat' (first|refine Run.ct rfl ?_|((first|refine Run.reg mixed ?_|refine Run.AD ?_|refine Run.Er Ob (AF.le_refl _) ?_|refine AI.det (hcl _) ?_|refine AI.det (hco _) ?_)<;>try simp -implicitDefEqProofs only [go_sem])|fail))
end Go.Ab
