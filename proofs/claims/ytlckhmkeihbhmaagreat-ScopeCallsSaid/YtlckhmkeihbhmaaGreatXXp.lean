/- Components: groups that are ready. Components of a graph, in plain data: the search by a list of work. The compact codes of the functions of this seat, computed out of the translation. Conditions: none. -/
import Derived.Test.YtlckhmkeihbhmaaGreatProg
import Derived.KernelRfl
import Derived.Test.YtlckhmkeihbhmaaGreatXXk
set_option linter.unusedSimpArgs false
set_option linter.unusedVariables false
set_option maxRecDepth 4000
set_option maxHeartbeats 8000000
open List renaming getElem?_map→Ah,getElem?_range→C8,all_eq_true→As,mem_range→F9,range→Ae,range_succ→LC,filter_append→F8,length_filter_le→ER,length_range→GG,length_map→AA,length_cons→A5,length_nil→BX,length_set→LB,map_append→Er,replicate→AG,mem_singleton→B5,length_append→AS,append_nil→Aq,getElem?_set→An,mem_append→A3,ext_getElem?→Dv,getElem?_eq_none→Ao
open Nat renaming lt_or_ge→Br,mul_one→Ai,mul_le_mul_right→BO,succ_mul→J2
open Bool renaming eq_false_iff→Bv,eq_iff_iff→Ac
open Ne renaming symm→Bs
open Option renaming map_some→Bn
namespace Go.Ab
open Go.Proofs
theorem M9 {g:List (List Nat)} {i k:Nat} (hk:k < g.length):(Rh g i)[k]?=some (rB g i k):=by
 rw [Rh,Ah,C8 hk];rfl
theorem RS.at {σ τ:AF} {g:List (List Nat)} {j1 j3 j4 jr:Nat} {cells:List AV} (h:RS σ g j1 j3 j4 jr g.length g.length cells τ) {i:Nat} (hi:i < g.length):∃ji,cells[i]?=some (.ms ji g.length 1 4)∧τ.blk ji=some (BK (Rh g i)):=by
 obtain ⟨ji,h1,h2,_⟩:=h.rows i hi
 exact ⟨ji,h1,h2⟩
theorem ilT {i n:Nat} (h:i < n):((i:Int) < (n:Int))=True:=by simp only [eq_iff_iff,iff_true];omega
theorem gO (g:List (List Nat)) (hgl:g.length≤1000) (j1 j3 j4 jr j7 jl:Nat) (σ τ:AF) (cells:List AV) (h:RS σ g j1 j3 j4 jr g.length g.length cells τ) (ls:List Bool) (hls:ls.length=g.length) (h7:τ.blk j7=some [.ms jl g.length 1 4]) (hl:τ.blk jl=some (BK ls)) (i:Nat) (hi:i < g.length):
 AM Tryz.prog 70 [.d (.int .i64 i),.gp j3 0,.gp j4 0,.gp j7 0] τ (fun v σ'=>v= .d (.bool (S9 g ls i))∧σ'=τ):=by
 obtain ⟨ji,hci,hbi⟩:=h.at hi
 have hil:=ilT hi
 refine Oa (by simp) ?_
 rw [gD]
 (repeat' (first|refine Run.ct rfl ?_|((first|refine Run.reg mixed ?_|refine Run.AD ?_)<;>try simp -implicitDefEqProofs only [h.b3,go_sem])|fail))
 refine Run.BD ?_
 refine Run.BG ((fun (a0:AV) (a2:AV) (a3:AV) (a7:AV)=>fun (j:Nat)=>put 0 a0 (put 2 a2 (put 3 a3 (put 7 a7 (put 8 (.d (.int .i64 j)) U))))) _ _ _ _) (fun _=>E) (fun _=>τ) (fun j=>j≤g.length∧∀k,k < j→((rB g i k&& !rB g k i)&& !lsB ls k)=false) (fun j=>g.length - j) ?_ 0 ⟨by simp,fun k hk=>by omega⟩
 rintro j ⟨hj,hno⟩ ih
 by_cases hlt:j < g.length
 · obtain ⟨jj,hcj,hbj⟩:=h.at hlt
   have hjl:=ilT hlt
   have hw1:=A6 (show j+1≤9000000000000000000 by omega)
   have e1:=DD (M9 (i:=i) hlt)
   have e2:=DD (M9 (i:=j) hi)
   obtain ⟨bl,hbl⟩:=BC (show j < ls.length by omega)
   have e3:=DD hbl
   rw [← KF hbl] at e3
   have hnx:((rB g i j&& !rB g j i)&& !lsB ls j)=false→∀k,k < j+1→((rB g i k&& !rB g k i)&& !lsB ls k)=false:=fun h0 k hk=>by
    rcases Br k j with h|h
    · exact hno k h
    · have:k=j:=by omega
      subst this;exact h0
   cases c1:rB g i j with
   |false=>
    rw [c1] at e1
    (repeat' (first|refine Run.ct rfl ?_|((first|refine Run.reg mixed ?_|refine Run.AD ?_)<;>try simp -implicitDefEqProofs only [A8 hlt,h.b4,h.br,hci,hbi,hcj,hbj,hil,hjl,e1,hw1,Ai,go_sem])|fail))
    exact ih (j+1) ⟨by omega,hnx (by rw [c1];rfl)⟩ (by omega)
   |true=>
   rw [c1] at e1
   cases c2:rB g j i with
   |true=>
    rw [c2] at e2
    (repeat' (first|refine Run.ct rfl ?_|((first|refine Run.reg mixed ?_|refine Run.AD ?_)<;>try simp -implicitDefEqProofs only [A8 hlt,h.b4,h.br,hci,hbi,hcj,hbj,hil,hjl,e1,e2,hw1,Ai,go_sem])|fail))
    exact ih (j+1) ⟨by omega,hnx (by rw [c1,c2];rfl)⟩ (by omega)
   |false=>
   rw [c2] at e2
   cases c3:lsB ls j with
   |true=>
    rw [c3] at e3
    (repeat' (first|refine Run.ct rfl ?_|((first|refine Run.reg mixed ?_|refine Run.AD ?_)<;>try simp -implicitDefEqProofs only [A8 hlt,h.b4,h.br,hci,hbi,hcj,hbj,h7,hl,hil,hjl,e1,e2,e3,hw1,Ai,go_sem])|fail))
    exact ih (j+1) ⟨by omega,hnx (by rw [c1,c2,c3];rfl)⟩ (by omega)
   |false=>
    rw [c3] at e3
    have hr:S9 g ls i=false:=by
     rw [S9,Bv]
     intro ha
     rw [As] at ha
     have:=ha j (F9.2 hlt)
     rw [c1,c2,c3] at this;cases this
    (repeat' (first|refine Run.ct rfl ?_|((first|refine Run.reg mixed ?_|refine Run.AD ?_|refine Run.Fu GS (AF.le_refl _) ?_)<;>try simp -implicitDefEqProofs only [A8 hlt,h.b4,h.br,hci,hbi,hcj,hbj,h7,hl,hil,hjl,e1,e2,e3,hw1,Ai,go_sem])|fail))
    rw [hr]
 · have hr:S9 g ls i=true:=by
    rw [S9,As]
    intro k hk
    rw [F9] at hk
    rw [hno k (by omega)];rfl
   (repeat' (first|refine Run.ct rfl ?_|((first|refine Run.reg mixed ?_|refine Run.AD ?_|refine Run.Fu GS (AF.le_refl _) ?_)<;>try simp -implicitDefEqProofs only [Bd hlt,go_sem])|fail))
   rw [hr]
theorem RS.tok {σ τ τ':AF} {g:List (List Nat)} {j1 j3 j4 jr i m:Nat} {cells:List AV} (h:RS σ g j1 j3 j4 jr i m cells τ) (hb:∀q,τ'.blk q=τ.blk q) (hle:σ.le τ'):RS σ g j1 j3 j4 jr i m cells τ':=
 ⟨(hb j1).trans h.b1,(hb j3).trans h.b3,(hb j4).trans h.b4,(hb jr).trans h.br,h.cl,fun k hk=>by
   obtain ⟨jk,h1,h2,h3⟩:=h.rows k hk
   exact ⟨jk,h1,(hb jk).trans h2,h3⟩,h.rest,hle,h.nr,h.n1,h.n3,h.n4⟩
theorem F1.set {σ0 τ:AF} {l:List Ow} (h:F1 σ0 l τ) {j:Nat} (hj:σ0.blk j=none) (cs:List AV):F1 σ0 l (τ.AP j cs):=⟨fun x hx=>(h.1 x hx).set hj cs,h.2⟩
structure LS (σ:AF) (g:List (List Nat)) (j1 j3 j4 jr j7 jl:Nat) (cells:List AV) (ls:List Bool) (τ:AF):Prop where
 rs:RS σ g j1 j3 j4 jr g.length g.length cells τ
 b7:τ.blk j7=some [.ms jl g.length 1 4]
 bl:τ.blk jl=some (BK ls)
 ll:ls.length=g.length
 nl:σ.blk jl=none
 n1:jl≠j1
 n3:jl≠j3
 n4:jl≠j4
 nr:jl≠jr
 n7:jl≠j7
 nk:∀k jk,k < g.length→cells[k]?=some (.ms jk g.length 1 4)→jk≠jl
theorem LS.set {σ:AF} {g:List (List Nat)} {j1 j3 j4 jr j7 jl:Nat} {cells:List AV} {ls:List Bool} {τ:AF} (h:LS σ g j1 j3 j4 jr j7 jl cells ls τ) (ls':List Bool) (hl:ls'.length=g.length):LS σ g j1 j3 j4 jr j7 jl cells ls' (τ.AP jl (BK ls')):=
 ⟨h.rs.new h.nl h.n1 h.n3 h.n4 h.nr h.nk _,by rw [AL,if_neg (Bs h.n7)];exact h.b7,by rw [AL,if_pos rfl],hl,h.nl,h.n1,h.n3,h.n4,h.nr,h.n7,h.nk⟩
theorem LS.tok {σ:AF} {g:List (List Nat)} {j1 j3 j4 jr j7 jl:Nat} {cells:List AV} {ls:List Bool} {τ τ':AF} (h:LS σ g j1 j3 j4 jr j7 jl cells ls τ) (hb:∀q,τ'.blk q=τ.blk q) (hle:σ.le τ'):LS σ g j1 j3 j4 jr j7 jl cells ls τ':=
 ⟨h.rs.tok hb hle,(hb j7).trans h.b7,(hb jl).trans h.bl,h.ll,h.nl,h.n1,h.n3,h.n4,h.nr,h.n7,h.nk⟩
theorem kF (Q:AV→AF→Prop) (rest:List CI) (g:List (List Nat)) (hgl:g.length≤1000) (j1 j3 j4 jr j7 jl:Nat) (σ τ:AF) (cells:List AV) (ls:List Bool) (h:LS σ g j1 j3 j4 jr j7 jl cells ls τ) (i:Nat) (hi:i < g.length) (fnv outv:AV) (orows:List (List DV)) (ho:F1 σ [⟨35,1,orows,outv⟩] τ) (hfn:∀k,fnv.Ar k=false)
 (hfin:∀gv τ',LS σ g j1 j3 j4 jr j7 jl cells (NP g i ls) τ'→F1 σ [⟨3,1,(Gb g i).map DI,gv⟩,⟨35,1,orows,outv⟩] τ'→Run B4 Q rest (put 3 (.gp j3 0) (put 4 (.gp j4 0) (put 7 (.gp j7 0) (put 8 fnv (put 9 outv (put 10 (.d (.int .i64 i)) (put 11 gv (put 50 (.d (.int .i64 g.length)) (put 51 (.d (.int .i64 g.length)) (put 52 (.d (.bool false)) U)))))))))) E τ'):
 Run B4 Q (.code (.loop IS)::.blk 4::rest) (put 3 (.gp j3 0) (put 4 (.gp j4 0) (put 7 (.gp j7 0) (put 8 fnv (put 9 outv (put 10 (.d (.int .i64 i)) (put 11 .AY (put 50 (.d (.int .i64 g.length)) (put 51 (.d (.int .i64 0)) U))))))))) E τ:=by
 have hol:=fun k=>ho.head.Ar k
 simp only at hol
 have hil:=ilT hi
 refine Run.BD ?_
 refine Run.BG ((fun (a3:AV) (a4:AV) (a7:AV) (a8:AV) (a9:AV) (a10:AV) (a50:AV)=>fun (y:Nat×AV×AF)=>put 3 a3 (put 4 a4 (put 7 a7 (put 8 a8 (put 9 a9 (put 10 a10 (put 11 (y.2.1) (put 50 a50 (put 51 (.d (.int .i64 y.1)) U))))))))) _ _ _ _ _ _ _) (fun _=>E) (fun y=>y.2.2)
  (fun y=>y.1≤g.length∧LS σ g j1 j3 j4 jr j7 jl cells (SZ g i ls y.1) y.2.2∧F1 σ [⟨3,1,((Ae y.1).filter (EP g i)).map DI,y.2.1⟩,⟨35,1,orows,outv⟩] y.2.2) (fun y=>g.length - y.1) ?_ (0,.AY,τ) ⟨by simp,by rw [eL h.ll];exact h,ho.nil h.rs.le _ _⟩
 rintro ⟨j,gv,τ⟩ ⟨hj,hL,hO⟩ ih
 simp only at hj hL hO
 have hgo:=hO.head
 simp only at hgo
 by_cases hlt:j < g.length
 · obtain ⟨ji,hci,hbi⟩:=hL.rs.at hi
   obtain ⟨jj,hcj,hbj⟩:=hL.rs.at hlt
   have hjl:=ilT hlt
   have hw1:=A6 (show j+1≤9000000000000000000 by omega)
   have e1:=DD (M9 (i:=i) hlt)
   have e2:=DD (M9 (i:=j) hi)
   have hst:=eK (i:=i) (ls:=ls) hlt
   have hfs:(Ae (j+1)).filter (EP g i)=if EP g i j then (Ae j).filter (EP g i)++[j] else (Ae j).filter (EP g i):=by
    rw [LC,F8]
    cases hm:EP g i j<;>simp [hm]
   have hih:=fun gv' τ' h1 h2=>ih (j+1,gv',τ') ⟨by simp only;omega,h1,h2⟩ (by simp only;omega)
   simp only at hih
   rw [hst,hfs] at hih
   cases c1:rB g i j with
   |false=>
    have hm:EP g i j=false:=by simp [EP,c1]
    rw [c1] at e1
    rw [hm] at hih
    (repeat' (first|refine Run.ct rfl ?_|((first|refine Run.reg mixed ?_|refine Run.AD ?_)<;>try simp -implicitDefEqProofs only [A8 hlt,hL.rs.b4,hL.rs.br,hci,hbi,hcj,hbj,hil,hjl,e1,hw1,Ai,hol,hgo.Ar,hfn,go_sem])|fail))
    exact hih _ _ hL hO
   |true=>
   rw [c1] at e1
   cases c2:rB g j i with
   |false=>
    have hm:EP g i j=false:=by simp [EP,c2]
    rw [c2] at e2
    rw [hm] at hih
    (repeat' (first|refine Run.ct rfl ?_|((first|refine Run.reg mixed ?_|refine Run.AD ?_)<;>try simp -implicitDefEqProofs only [A8 hlt,hL.rs.b4,hL.rs.br,hci,hbi,hcj,hbj,hil,hjl,e1,e2,hw1,Ai,hol,hgo.Ar,hfn,go_sem])|fail))
    exact hih _ _ hL hO
   |true=>
    have hm:EP g i j=true:=by simp [EP,c1,c2]
    rw [c2] at e2
    rw [hm] at hih
    simp only [if_true] at hih
    have hflen:(((Ae j).filter (EP g i)).map DI).length≤1000:=by
     have:=ER (EP g i) (Ae j)
     rw [GG] at this
     rw [AA];omega
    have hjm:j < (SZ g i ls j).length:=by rw [Hs];exact hlt
    have hb7:=hL.b7
    have hbl:=hL.bl
    have w1:=MF true hjm
    have d1:=OJ hjm
    (repeat' (first|refine Run.ct rfl ?_|((first|refine Run.reg mixed ?_|refine Run.AD ?_|(refine Dy.aE (cx:=B4) hO rfl (by simp) (by simp only [A5,BX];omega) (by decide) (fun v2 τ2 ho2 hbk=>?_)))<;>try simp -implicitDefEqProofs only [A8 hlt,hL.rs.b4,hL.rs.br,hci,hbi,hcj,hbj,hil,hjl,e1,e2,hw1,Ai,hol,hgo.Ar,hfn,go_sem])|fail))
    have hL2:=hL.tok hbk ho2.head.le
    have h2l:=ho2.head.Ar
    simp only at h2l
    simp -implicitDefEqProofs only [hL2.b7,hL2.bl,hjl,w1,d1,Ai,go_sem]
    (repeat' (first|refine Run.ct rfl ?_|((first|refine Run.reg mixed ?_|refine Run.AD ?_)<;>try simp -implicitDefEqProofs only [hL2.b7,hL2.bl,hjl,w1,d1,hw1,Ai,hol,h2l,hfn,go_sem])|fail))
    exact hih _ _ (hL2.set _ (by rw [LB,Hs])) (by
     rw [Er]
     exact ho2.set hL.nl _)
 · have hje:j=g.length:=by omega
   subst hje
   have:=hfin gv τ hL hO
   (repeat' (first|refine Run.ct rfl ?_|((first|refine Run.reg mixed ?_|refine Run.AD ?_)<;>try simp -implicitDefEqProofs only [Bd hlt,hol,hgo.Ar,hfn,go_sem])|fail))
   exact this
theorem kG (Q:AV→AF→Prop) (rest:List CI) (g:List (List Nat)) (hgl:g.length≤1000) (j1 j3 j4 jr j7 jl:Nat) (σ τ:AF) (cells:List AV) (h:LS σ g j1 j3 j4 jr j7 jl cells (AG g.length false) τ)
 (hfin:∀outv τ',σ.le τ'→Cg σ 35 1 ((Nc g).map Eb) outv τ'→Run B4 Q rest (put 3 (.gp j3 0) (put 4 (.gp j4 0) (put 7 (.gp j7 0) (put 8 (.fn 70 [] [.gp j3 0,.gp j4 0,.gp j7 0]) (put 9 outv (put 10 (.d (.int .i64 g.length)) (put 37 (.d (.bool false)) U))))))) E τ'):
 Run B4 Q (.code (.loop IT)::.blk 2::rest) (put 3 (.gp j3 0) (put 4 (.gp j4 0) (put 7 (.gp j7 0) (put 8 (.fn 70 [] [.gp j3 0,.gp j4 0,.gp j7 0]) (put 9 .AY (put 10 (.d (.int .i64 0)) U)))))) E τ:=by
 refine Run.BD ?_
 refine Run.BG ((fun (a3:AV) (a4:AV) (a7:AV) (a8:AV)=>fun (y:Nat×List Bool×List (List Nat)×Nat×AV×AF)=>put 3 a3 (put 4 a4 (put 7 a7 (put 8 a8 (put 9 (y.2.2.2.2.1) (put 10 (.d (.int .i64 y.1)) U)))))) _ _ _ _) (fun _=>E) (fun y=>y.2.2.2.2.2)
  (fun y=>y.1≤g.length∧LS σ g j1 j3 j4 jr j7 jl cells y.2.1 y.2.2.2.2.2∧Cg σ 35 1 (y.2.2.1.map Eb) y.2.2.2.2.1 y.2.2.2.2.2∧Nc g=y.2.2.1++Mz g y.2.2.2.1 y.2.1∧unm y.2.1 < y.2.2.2.1∧y.2.2.1.length+unm y.2.1≤g.length∧∀k,k < y.1→Lh g y.2.1 k=false)
  (fun y=>unm y.2.1 * (g.length+1)+(g.length - y.1)) ?_ (0,AG g.length false,[],g.length+1,.AY,τ) ⟨by simp,h,⟨⟨τ,rfl,h.rs.le⟩,h.rs.le,rfl,rfl,rfl,rfl,fun _=>rfl,rfl,rfl⟩,rfl,by simp [unm],by simp [unm],fun k hk=>by simp only at hk;omega⟩
 clear h
 rintro ⟨i,ls,out,f,outv,τ⟩ ⟨hi,hL,ho,hcp,hf,hol,hno⟩ ih
 simp only at hi hL ho hcp hf hol hno
 by_cases hlt:i < g.length
 · have hil:=ilT hlt
   have hw1:=A6 (show i+1≤9000000000000000000 by omega)
   obtain ⟨b,hb⟩:=BC (show i < ls.length by rw [hL.ll];exact hlt)
   have eb:=DD hb
   rw [← KF hb] at eb
   have hskip:Lh g ls i=false→_:=fun hc=>ih (i+1,ls,out,f,outv,τ) ⟨by simp only;omega,hL,ho,hcp,hf,hol,fun k hk=>by
    simp only at hk
    rcases Br k i with h|h
    · exact hno k h
    · have:k=i:=by omega
      subst this;exact hc⟩ (by simp only;omega)
   simp only at hskip
   cases hb1:lsB ls i with
   |true=>
    rw [hb1] at eb
    (repeat' (first|refine Run.ct rfl ?_|((first|refine Run.reg mixed ?_|refine Run.AD ?_)<;>try simp -implicitDefEqProofs only [A8 hlt,hL.rs.b3,hL.b7,hL.bl,hil,eb,hw1,Ai,ho.Ar,go_sem])|fail))
    exact hskip (by simp [Lh,hb1])
   |false=>
   rw [hb1] at eb
   have hrd:=gO g hgl j1 j3 j4 jr j7 jl σ τ cells hL.rs ls hL.ll hL.b7 hL.bl i hlt
   cases hr:S9 g ls i with
   |false=>
    rw [hr] at hrd
    (repeat' (first|refine Run.ct rfl ?_|((first|refine Run.reg mixed ?_|refine Run.AD ?_|(refine ⟨_,[],[.gp j3 0,.gp j4 0,.gp j7 0],rfl,by kernel_rfl,AJ.det hrd ?_⟩))<;>try simp -implicitDefEqProofs only [A8 hlt,hL.rs.b3,hL.b7,hL.bl,hil,eb,hw1,Ai,ho.Ar,go_sem])|fail))
    exact hskip (by simp [Lh,hr])
   |true=>
    rw [hr] at hrd
    have hcan:Lh g ls i=true:=by simp [Lh,hb1,hr]
    have hnx:eT g ls=some i:=XV hlt hcan hno
    obtain ⟨f,rfl⟩:∃f',f=f'+1:=⟨f - 1,by omega⟩
    have hcp2:Nc g=(out++[Gb g i])++Mz g f (NP g i ls):=by
     rw [hcp,Mz,hnx];simp
    have hum:=cG hL.ll hlt hb1
    have hm1:IntKind.i64.wrap ((-1:Int)+1)=((0:Nat):Int):=by decide
    (repeat' (first|refine Run.ct rfl ?_|((first|refine Run.reg mixed ?_|refine Run.AD ?_|(refine ⟨_,[],[.gp j3 0,.gp j4 0,.gp j7 0],rfl,by kernel_rfl,AJ.det hrd ?_⟩))<;>try simp -implicitDefEqProofs only [A8 hlt,hL.rs.b3,hL.b7,hL.bl,hil,eb,hw1,Ai,ho.Ar,go_sem])|fail))
    refine kF Q _ g hgl j1 j3 j4 jr j7 jl σ τ cells ls hL i hlt _ outv (out.map Eb) ⟨fun x hx=>by simp only [B5] at hx;subst hx;exact ho,List.pairwise_singleton _ _⟩ (fun _=>rfl) (fun gv τ2 hL2 hO2=>?_)
    have hg2:=hO2.head
    have ho2:=hO2.tail.head
    simp only at hg2 ho2
    (repeat' (first|refine Run.ct rfl ?_|((first|refine Run.reg mixed ?_|refine Run.AD ?_|(refine Dy.own ho2 rfl (by simp) (by simp;omega) (by decide) (fun v4 τ4 ho4 hbk4=>?_)))<;>try simp -implicitDefEqProofs only [hm1,ho2.Ar,hg2.Ar,hg2.cell,hg2.cells,hg2.dv,hg2.BZ,Ai,go_sem])|fail))
    (repeat' (first|refine Run.ct rfl ?_|((first|refine Run.reg mixed ?_|refine Run.AD ?_)<;>try simp -implicitDefEqProofs only [hm1,ho4.Ar,go_sem])|fail))
    refine ih (0,NP g i ls,out++[Gb g i],f,v4,τ4) ⟨by simp,hL2.tok hbk4 ho4.le,by simp only [Er];exact ho4,hcp2,by simp only;omega,by simp only [AS,A5,BX];omega,fun k hk=>by simp only at hk;omega⟩ ?_
    simp only
    have:(unm (NP g i ls)+1) * (g.length+1)≤unm ls * (g.length+1):=BO _ hum
    rw [J2] at this
    omega
 · have hie:i=g.length:=by omega
   subst hie
   obtain ⟨f,rfl⟩:∃f',f=f'+1:=⟨f - 1,by omega⟩
   have hnx:eT g ls=none:=Wj hno
   rw [Mz,hnx,Aq] at hcp
   have:=hfin outv τ ho.le (by rw [hcp];exact ho)
   (repeat' (first|refine Run.ct rfl ?_|((first|refine Run.reg mixed ?_|refine Run.AD ?_)<;>try simp -implicitDefEqProofs only [Bd hlt,hL.rs.b3,ho.Ar,go_sem])|fail))
   exact this
end Go.Ab
namespace Go.Ab
structure WkQ (g:List (List Nat)) (i:Nat) (x:Option Nat) (ws:List Nat) (R:List Bool) (W:List Nat):Prop where
 len:R.length=g.length
 self:R[i]?=some true
 sound:∀k:Nat,R[k]?=some true→Reach g i k
 inW:∀v∈W,R[v]?=some true
 done:∀w∈ws,R[w]?=some true
 cls:∀k:Nat,R[k]?=some true→k∈W∨x=some k∨∀w∈g.getD k [],R[w]?=some true
theorem WkQ.start {g:List (List Nat)} {i:Nat} (hi:i < g.length):WkQ g i none [] ((AG g.length false).set i true) [i]:=by
 have h0:∀k:Nat,((AG g.length false).set i true)[k]?=some true→k=i:=fun k hk=>by
  rw [An] at hk
  split at hk
  · rename_i e;exact e.symm
  · rw [List.getElem?_replicate] at hk;split at hk<;>cases hk
 have h1:((AG g.length false).set i true)[i]?=some true:=by simp [hi]
 refine ⟨by simp,h1,fun k hk=>?_,fun v hv=>?_,by simp,fun k hk=>.inl ?_⟩
 · rw [h0 k hk];exact .refl i
 · simp at hv;subst hv;exact h1
 · simp [h0 k hk]
theorem WkQ.pop {g:List (List Nat)} {i v:Nat} {R:List Bool} {W:List Nat} (h:WkQ g i none [] R (W++[v])):WkQ g i (some v) [] R W∧R[v]?=some true:=by
 refine ⟨⟨h.len,h.self,h.sound,fun w hw=>h.inW w (by simp [hw]),by simp,fun k hk=>?_⟩,h.inW v (by simp)⟩
 rcases h.cls k hk with h1|h1|h1
 · rcases A3.1 h1 with h2|h2
   · exact .inl h2
   · simp at h2;subst h2;exact .inr (.inl rfl)
 · cases h1
 · exact .inr (.inr h1)
theorem WkQ.old {g:List (List Nat)} {i:Nat} {x:Option Nat} {ws:List Nat} {w:Nat} {R:List Bool} {W:List Nat} (h:WkQ g i x ws R W) (hw:R[w]?=some true):WkQ g i x (ws++[w]) R W:=
 ⟨h.len,h.self,h.sound,h.inW,fun y hy=>by
   rcases A3.1 hy with h1|h1
   · exact h.done y h1
   · simp at h1;subst h1;exact hw,h.cls⟩
theorem WkQ.new {g:List (List Nat)} {i:Nat} {x:Option Nat} {ws:List Nat} {w:Nat} {R:List Bool} {W:List Nat} (h:WkQ g i x ws R W) (hw:w < g.length) (hr:Reach g i w):WkQ g i x (ws++[w]) (R.set w true) (W++[w]):=by
 have hm:∀k:Nat,R[k]?=some true→(R.set w true)[k]?=some true:=fun k hk=>by
  rw [An]
  split
  · rename_i e;subst e;simp [h.len,hw]
  · exact hk
 have hs:(R.set w true)[w]?=some true:=by simp [h.len,hw]
 have hk':∀k:Nat,(R.set w true)[k]?=some true→k=w∨R[k]?=some true:=fun k hk=>by
  rw [An] at hk
  split at hk
  · rename_i e;exact .inl e.symm
  · exact .inr hk
 refine ⟨by simp [h.len],hm _ h.self,fun k hk=>?_,fun y hy=>?_,fun y hy=>?_,fun k hk=>?_⟩
 · rcases hk' k hk with h1|h1
   · rw [h1];exact hr
   · exact h.sound k h1
 · rcases A3.1 hy with h1|h1
   · exact hm _ (h.inW y h1)
   · simp at h1;subst h1;exact hs
 · rcases A3.1 hy with h1|h1
   · exact hm _ (h.done y h1)
   · simp at h1;subst h1;exact hs
 · rcases hk' k hk with h1|h1
   · subst h1;exact .inl (by simp)
   · rcases h.cls k h1 with h2|h2|h2
     · exact .inl (by simp [h2])
     · exact .inr (.inl h2)
     · exact .inr (.inr fun y hy=>hm _ (h2 y hy))
theorem WkQ.close {g:List (List Nat)} {i v:Nat} {R:List Bool} {W:List Nat} (h:WkQ g i (some v) (g.getD v []) R W):WkQ g i none [] R W:=
 ⟨h.len,h.self,h.sound,h.inW,by simp,fun k hk=>by
   rcases h.cls k hk with h1|h1|h1
   · exact .inl h1
   · cases h1;exact .inr (.inr h.done)
   · exact .inr (.inr h1)⟩
theorem WkQ.fin {g:List (List Nat)} {i:Nat} {R:List Bool} (h:WkQ g i none [] R []):R=Rh g i:=by
 have hc:∀a b,Reach g a b→R[a]?=some true→R[b]?=some true:=fun a b hr=>by
  induction hr with
  |refl=>exact id
  |step hw _ ih=>
   intro ha
   rcases h.cls _ ha with h1|h1|h1
   · cases h1
   · cases h1
   · exact ih (h1 _ hw)
 apply Dv
 intro k
 by_cases hk:k < g.length
 · have hkR:k < R.length:=by rw [h.len];exact hk
   have hR:R[k]?=some R[k]:=by simp [hkR]
   rw [Rh,Ah,C8 hk,Bn,hR]
   congr 1
   rw [Ac,Oj]
   constructor
   · intro ht
     rw [ht] at hR
     exact h.sound k hR
   · intro hr
     have:=hc i k hr h.self
     rw [hR] at this
     exact Option.some.inj this
 · rw [Ao (by rw [h.len];omega),Ao (by simp [Rh];omega)]
end Go.Ab
namespace Go.Ab
open Go.Proofs
variable {args:List AV} {σ:AF} {K:AV→AF→Prop}
def Q0:C:=(.seq (.reg [Qo 1 (.box (.t 0) false),
 Qo 2 (.mv (.c (.d (.bool false))))] [1])
 (.seq (.seq (.reg [Qo 3 (.ldl (.t 1) (some 2)),
 Qo 4 (.call 8 [(.t 3)]),
 Qo 5 (.un .not (.t 4))] [1,5])
 (.cond (.t 5) (.seq (.reg [Qo 2 (.mv (.c (.d (.bool true))))] [2])
 .ret)
 .skip))
 (.seq (.reg [Qo 6 (.ldl (.t 1) (some 2)),
 Qo 8 (.ldl (.t 1) (some 2)),
 Qo 7 (.call 10 [(.t 6)]),
 Qo 9 (.call 11 [(.t 8)]),
 Qo 10 (.call 9 [(.t 7),(.t 9)]),
 Qm 11 10,
 ⟨some 12,.ldl (.t 1) (some 2),some (11,true)⟩,
 ⟨some 14,.ldl (.t 1) (some 2),some (11,true)⟩,
 ⟨some 13,.call 12 [(.t 12)],some (11,true)⟩,
 ⟨some 15,.call 13 [(.t 14)],some (11,true)⟩,
 ⟨some 16,.call 9 [(.t 13),(.t 15)],some (11,true)⟩,
 Qo 17 (.pick (.t 11) (.t 16) (.c (.d (.bool false)))),
 Qm 18 17,
 ⟨some 19,.call 14 [],some (18,true)⟩,
 Qo 20 (.pick (.t 18) (.t 19) (.c (.d (.bool false)))),
 Qm 2 20] [2])
 .ret)))
def Qq:List (List Nat×PT):=[([1],.done),([1,5],.done),([2],.done),([2],(.one 0 (.one 2 (.one 1 (.one 3 (.one 4 (.one 5 (.one 6 (.one 8 (.one 7 (.one 9 (.one 10 (.one 11 (.one 12 (.one 13 (.one 14 (.one 15 .done)))))))))))))))))]
noncomputable def EY:Cx:=⟨Tryz.prog,3,Tryz.f3,21,[300003,300006,300008,300012,300014],[],[.t 2]⟩
theorem HO:Good EY:=⟨Tryz.func3,by kernel_rfl⟩
theorem P7:EY.rs=[.t 2]:=rfl
theorem Q8 (hl:args.length≤21) (h:Run EY K [.code Q0] (BP args) E σ):AM Tryz.prog 3 args σ K:=
 AW (cx:=EY) (code:=Tryz.f3.body.getD .skip) HO (by kernel_rfl) Tryz.ntmps3 hl (AX EY _ Qq _ [] (by kernel_rfl)) h
def Ps:C:=(.seq (.seq (.reg [Qm 57 10,
 Qm 58 7,
 Qo 59 (.nck (.t 58)),
 Qo 60 (.fld (.t 59) 4),
 Qo 61 (.ld (.t 60) none),
 Qo 62 (.len (.t 61)),
 Qo 63 (.bin .lss (.t 57) (.t 62))] [1,3,5,6,7,8,9,10,63])
 (.cond (.t 63) .skip
 (.exit 4)))
 (.seq (.block 5 (.seq (.reg [Qm 66 7,
 Qo 67 (.nck (.t 66)),
 Qo 68 (.fld (.t 67) 4),
 Qo 69 (.ld (.t 68) none),
 Qm 70 10,
 Qo 71 (.ix (.t 69) (.t 70) 1),
 Qo 72 (.ld (.t 71) none),
 Qm 73 9,
 Qo 74 (.bin .eql (.t 72) (.t 73))] [1,3,5,6,7,8,9,10,74])
 (.cond (.t 74) (.seq (.reg [Qm 75 8,
 Qm 76 9,
 Qo 77 (.bsl 1 1 [(.d (.int .i64 0))] [(0,1,(.t 76))]),
 Qo 78 (.app 3 1 8 (.t 75) (.t 77)),
 Qm 8 78] [1,3,5,6,7,8,9])
 (.exit 4))
 .skip)))
 (.reg [Qm 64 10,
 Qo 65 (.bin .add (.t 64) (.c (.d (.int .i64 1)))),
 Qm 10 65] [1,3,5,6,7,8,9,10])))
def Pt:C:=(.seq (.seq (.reg [Qm 50 9,
 Qo 51 (.fld (.t 1) 1),
 Qo 52 (.ldl (.t 51) none),
 Qo 53 (.len (.t 52)),
 Qo 54 (.bin .lss (.t 50) (.t 53))] [1,3,5,6,7,8,9,54])
 (.cond (.t 54) .skip
 (.exit 2)))
 (.seq (.block 3 (.seq (.reg [Qo 10 (.mv (.c (.d (.int .i64 0))))] [1,3,5,6,7,8,9,10])
 (.block 4 (.loop Ps))))
 (.reg [Qm 55 9,
 Qo 56 (.bin .add (.t 55) (.c (.d (.int .i64 1)))),
 Qm 9 56] [1,3,5,6,7,8,9])))
def Vv:C:=(.seq (.seq (.reg [Qm 25 6,
 Qo 26 (.fld (.t 1) 1),
 Qo 27 (.ldl (.t 26) none),
 Qo 28 (.len (.t 27)),
 Qo 29 (.bin .lss (.t 25) (.t 28))] [1,3,5,6,29])
 (.cond (.t 29) .skip
 (.exit 0)))
 (.seq (.block 1 (.seq (.reg [Qo 32 (.ldl (.t 1) (some 2)),
 Qm 33 3,
 Qo 34 (.bld [.AY,.AY,.AY,(.d (.int .i64 0)),.AY] [(0,2,(.t 32)),(2,1,(.t 33))]),
 Qo 35 (.box (.t 34) true),
 Qm 7 35] [1,3,5,6,7])
 (.seq (.reg [Qm 36 7,
 Qo 37 (.fld (.t 1) 1),
 Qo 38 (.ldl (.t 37) none),
 Qm 39 6,
 Qo 40 (.ix (.t 38) (.t 39) 8),
 Qo 41 (.fld (.t 40) 2),
 Qo 42 (.ld (.t 41) (some 6)),
 Qo 43 (.fld (.t 1) 1),
 Qo 44 (.ldl (.t 43) none),
 Qm 45 6,
 Qo 46 (.ix (.t 44) (.t 45) 8),
 Qo 47 (.fld (.t 46) 1),
 Qo 48 (.ld (.t 47) none),
 Qo 49 (.call 34 [(.t 36),(.t 42),(.t 48)])] [1,3,5,6,7])
 (.seq (.reg [Qo 8 (.mv (.c .AY))] [1,3,5,6,7,8])
 (.seq (.seq (.reg [Qo 9 (.mv (.c (.d (.int .i64 0))))] [1,3,5,6,7,8,9])
 (.block 2 (.loop Pt)))
 (.reg [Qm 79 5,
 Qm 80 8,
 Qo 81 (.bsl 1 1 [.AY] [(0,1,(.t 80))]),
 Qo 82 (.app 35 1 24 (.t 79) (.t 81)),
 Qm 5 82] [1,3,5,6]))))))
 (.reg [Qm 30 6,
 Qo 31 (.bin .add (.t 30) (.c (.d (.int .i64 1)))),
 Qm 6 31] [1,3,5,6])))
def U5:C:=(.seq (.reg [Qo 1 (.box (.t 0) false),
 Qo 2 (.mv (.c .AY))] [1])
 (.seq (.reg [Qo 12 (.ldl (.t 1) (some 2)),
 Qo 13 (.call 23 [(.t 12)]),
 Qm 11 13,
 Qo 14 (.ext (.t 11) 0),
 Qo 15 (.ext (.t 11) 1),
 Qo 4 (.al [(.d (.int .i64 0)),(.d (.int .i64 0)),(.d (.int .i64 0))] false),
 Qm 3 14,
 ⟨none,.st (.t 4) (.t 15) 3,none⟩] [1,3,4])
 (.seq (.seq (.reg [Qo 16 (.fld (.t 4) 0),
 Qo 17 (.ldl (.t 16) none),
 Qo 18 (.bin .neq (.t 17) (.c (.d (.int .i64 0)))),
 Qm 19 18,
 ⟨some 20,.ldl (.t 1) (some 2),some (19,false)⟩,
 ⟨some 21,.call 15 [(.t 20)],some (19,false)⟩,
 ⟨some 22,.fd (.t 21) 0 none,some (19,false)⟩,
 ⟨some 23,.bin .neq (.t 22) (.c (.d (.int .i64 0))),some (19,false)⟩,
 Qo 24 (.pick (.t 19) (.c (.d (.bool true))) (.t 23))] [1,3,24])
 (.cond (.t 24) (.seq (.reg [Qo 2 (.mv (.c .AY))] [2])
 .ret)
 .skip))
 (.seq (.reg [Qo 5 (.mv (.c .AY))] [1,3,5])
 (.seq (.seq (.reg [Qo 6 (.mv (.c (.d (.int .i64 0))))] [1,3,5,6])
 (.block 0 (.loop Vv)))
 (.seq (.reg [Qm 83 5,
 Qm 2 83] [2])
 .ret))))))
noncomputable def F7:Cx:=⟨Tryz.prog,11,Tryz.f11,84,[35,300012,300017,300020,300027,300032,300038,300044,300052],[],[.t 2]⟩
theorem NI:Good F7:=⟨Tryz.func11,by kernel_rfl⟩
theorem Yp:F7.rs=[.t 2]:=rfl
theorem Zp (hl:args.length≤84) (h:Run F7 K [.code U5] (BP args) E σ):AM Tryz.prog 11 args σ K:=
 AW (cx:=F7) (code:=Tryz.f11.body.getD .skip) NI (by kernel_rfl) Tryz.ntmps11 hl (AX F7 _ (B2 U5) _ [] (by kernel_rfl)) h
def Su:C:=(.seq (.reg [Qo 1 (.box (.t 0) false),
 Qo 2 (.mv (.c .AY))] [1])
 (.seq (.reg [Qo 3 (.ldl (.t 1) (some 2)),
 Qo 4 (.call 11 [(.t 3)]),
 Qo 5 (.call 36 [(.t 4)]),
 Qm 2 5] [2])
 .ret))
noncomputable def JY:Cx:=⟨Tryz.prog,13,Tryz.f13,6,[300003],[],[.t 2]⟩
theorem TB:Good JY:=⟨Tryz.func13,by kernel_rfl⟩
theorem Xn:JY.rs=[.t 2]:=rfl
theorem YV (hl:args.length≤6) (h:Run JY K [.code Su] (BP args) E σ):AM Tryz.prog 13 args σ K:=
 AW (cx:=JY) (code:=Tryz.f13.body.getD .skip) TB (by kernel_rfl) Tryz.ntmps13 hl (AX JY _ (B2 Su) _ [] (by kernel_rfl)) h
def Pn:C:=(.seq (.reg [Qo 0 (.mv (.c (.d (.bool false))))] [])
 (.seq (.reg [Qo 2 (.bld [(.d (.int .i64 0)),(.d (.str [])),(.d (.int .i64 0)),.AY,.AY,.AY] [(0,1,(.c (.d (.int .i64 4)))),(1,1,(.c (.d (.str [103]))))]),
 Qo 3 (.bld [(.d (.str [])),.AY,(.d (.int .i64 0)),(.d (.str [])),(.d (.int .i64 0)),.AY,.AY,.AY] [(0,1,(.c (.d (.str [102])))),(2,6,(.t 2))]),
 Qo 4 (.bsl 8 1 [(.d (.str [])),.AY,(.d (.int .i64 0)),(.d (.str [])),(.d (.int .i64 0)),.AY,.AY,.AY] [(0,8,(.t 3))]),
 Qo 5 (.bld [.AY,.AY] [(1,1,(.t 4))]),
 Qo 1 (.al [.AY,.AY] false),
 ⟨none,.st (.t 1) (.t 5) 2,none⟩] [1])
 (.seq (.reg [Qo 6 (.ldl (.t 1) (some 2)),
 Qo 7 (.call 18 [(.t 6)]),
 Qo 8 (.bld [(.d (.int .i64 0)),(.d (.int .i64 0)),(.d (.int .i64 0))] [(0,1,(.c (.d (.int .i64 3))))]),
 Qo 9 (.ZA false 3 (.t 7) (.t 8)),
 Qm 0 9] [0])
 .ret)))
noncomputable def HA:Cx:=⟨Tryz.prog,14,Tryz.f14,10,[300006],[],[.t 0]⟩
theorem QE:Good HA:=⟨Tryz.func14,by kernel_rfl⟩
theorem VN:HA.rs=[.t 0]:=rfl
theorem WB (hl:args.length≤10) (h:Run HA K [.code Pn] (BP args) E σ):AM Tryz.prog 14 args σ K:=
 AW (cx:=HA) (code:=Tryz.f14.body.getD .skip) QE (by kernel_rfl) Tryz.ntmps14 hl (AX HA _ (B2 Pn) _ [] (by kernel_rfl)) h
def Vw:C:=(.seq (.seq (.reg [Qm 19 5,
 Qo 20 (.fld (.t 1) 1),
 Qo 21 (.ldl (.t 20) none),
 Qo 22 (.len (.t 21)),
 Qo 23 (.bin .lss (.t 19) (.t 22))] [1,2,3,5,23])
 (.cond (.t 23) .skip
 (.exit 0)))
 (.seq (.block 1 (.seq (.reg [Qo 26 (.fld (.t 1) 1),
 Qo 27 (.ldl (.t 26) none),
 Qm 28 5,
 Qo 29 (.ix (.t 27) (.t 28) 8),
 Qo 30 (.ld (.t 29) (some 8)),
 Qo 6 (.al [(.d (.str [])),.AY,(.d (.int .i64 0)),(.d (.str [])),(.d (.int .i64 0)),.AY,.AY,.AY] false),
 ⟨none,.st (.t 6) (.t 30) 8,none⟩] [1,2,3,5,6])
 (.seq (.reg [Qo 31 (.ldl (.t 1) (some 2)),
 Qm 32 3,
 Qo 33 (.bld [.AY,.AY,.AY,(.d (.int .i64 0)),.AY] [(0,2,(.t 31)),(2,1,(.t 32))]),
 Qo 34 (.box (.t 33) true),
 Qm 7 34] [1,2,3,5,6,7])
 (.seq (.seq (.reg [Qm 35 7,
 Qo 36 (.fld (.t 6) 0),
 Qo 37 (.ldl (.t 36) none),
 Qo 38 (.call 37 [(.t 35),(.t 37)]),
 Qm 39 5,
 Qo 40 (.bin .lss (.t 38) (.t 39)),
 Qm 41 40,
 ⟨some 42,.fld (.t 6) 1,some (41,false)⟩,
 ⟨some 43,.ldl (.t 42) none,some (41,false)⟩,
 ⟨some 44,.call 38 [(.t 43)],some (41,false)⟩,
 Qo 45 (.pick (.t 41) (.c (.d (.bool true))) (.t 44))] [1,2,3,5,6,7,45])
 (.cond (.t 45) (.seq (.reg [Qm 46 5,
 Qo 47 (.bld [(.d (.int .i64 0)),(.d (.int .i64 0)),(.d (.int .i64 0))] [(0,1,(.c (.d (.int .i64 4)))),(1,1,(.t 46))]),
 ⟨none,.st (.t 2) (.t 47) 3,none⟩] [2])
 .ret)
 .skip))
 (.seq (.reg [Qm 49 7,
 Qo 50 (.fld (.t 6) 2),
 Qo 51 (.ldl (.t 50) (some 6)),
 Qo 52 (.fld (.t 6) 1),
 Qo 53 (.ldl (.t 52) none),
 Qo 54 (.call 34 [(.t 49),(.t 51),(.t 53)]),
 Qm 48 54,
 Qo 55 (.ext (.t 48) 0),
 Qo 56 (.ext (.t 48) 1),
 Qm 8 55,
 Qm 9 56] [1,2,3,5,8,9])
 (.seq (.reg [Qm 57 8,
 Qo 58 (.bin .neq (.t 57) (.c (.d (.int .i64 0))))] [1,2,3,5,8,9,58])
 (.cond (.t 58) (.seq (.reg [Qm 59 8,
 Qm 60 5,
 Qm 61 9,
 Qo 62 (.bld [(.d (.int .i64 0)),(.d (.int .i64 0)),(.d (.int .i64 0))] [(0,1,(.t 59)),(1,1,(.t 60)),(2,1,(.t 61))]),
 ⟨none,.st (.t 2) (.t 62) 3,none⟩] [2])
 .ret)
 .skip)))))))
 (.reg [Qm 24 5,
 Qo 25 (.bin .add (.t 24) (.c (.d (.int .i64 1)))),
 Qm 5 25] [1,2,3,5])))
def U6:C:=(.seq (.reg [Qo 1 (.box (.t 0) false),
 Qo 2 (.al [(.d (.int .i64 0)),(.d (.int .i64 0)),(.d (.int .i64 0))] false)] [1,2])
 (.seq (.reg [Qo 11 (.ldl (.t 1) (some 2)),
 Qo 12 (.call 23 [(.t 11)]),
 Qm 10 12,
 Qo 13 (.ext (.t 10) 0),
 Qo 14 (.ext (.t 10) 1),
 Qo 4 (.al [(.d (.int .i64 0)),(.d (.int .i64 0)),(.d (.int .i64 0))] false),
 Qm 3 13,
 ⟨none,.st (.t 4) (.t 14) 3,none⟩] [1,2,3,4])
 (.seq (.seq (.reg [Qo 15 (.fld (.t 4) 0),
 Qo 16 (.ldl (.t 15) none),
 Qo 17 (.bin .neq (.t 16) (.c (.d (.int .i64 0))))] [1,2,3,4,17])
 (.cond (.t 17) (.seq (.reg [Qo 18 (.ldl (.t 4) (some 3)),
 ⟨none,.st (.t 2) (.t 18) 3,none⟩] [2])
 .ret)
 .skip))
 (.seq (.seq (.reg [Qo 5 (.mv (.c (.d (.int .i64 0))))] [1,2,3,5])
 (.block 0 (.loop Vw)))
 (.seq (.reg [Qo 63 (.bld [(.d (.int .i64 0)),(.d (.int .i64 0)),(.d (.int .i64 0))] []),
 ⟨none,.st (.t 2) (.t 63) 3,none⟩] [2])
 .ret)))))
noncomputable def Kz:Cx:=⟨Tryz.prog,15,Tryz.f15,64,[34,300011,300016,300018,300021,300027,300031,300037,300043,300051,300053],[],[.c 2 (some 3)]⟩
theorem Ic:Good Kz:=⟨Tryz.func15,by kernel_rfl⟩
theorem Yq:Kz.rs=[.c 2 (some 3)]:=rfl
theorem Zq (hl:args.length≤64) (h:Run Kz K [.code U6] (BP args) E σ):AM Tryz.prog 15 args σ K:=
 AW (cx:=Kz) (code:=Tryz.f15.body.getD .skip) Ic (by kernel_rfl) Tryz.ntmps15 hl (AX Kz _ (B2 U6) _ [] (by kernel_rfl)) h
def RK:C:=(.seq (.seq (.reg [Qm 88 12,
 Qo 89 (.fld (.t 8) 2),
 Qo 90 (.ldl (.t 89) none),
 Qm 91 10,
 Qo 92 (.ix (.t 90) (.t 91) 2),
 Qo 93 (.fld (.t 92) 1),
 Qo 94 (.ld (.t 93) none),
 Qo 95 (.len (.t 94)),
 Qo 96 (.bin .lss (.t 88) (.t 95))] [1,3,4,5,6,7,8,9,10,11,12,96])
 (.cond (.t 96) .skip
 (.exit 4)))
 (.seq (.block 5 (.seq (.reg [Qo 13 (.al [(.d (.int .i64 0)),(.d (.int .i64 0)),.AY] false),
 Qo 100 (.ldl (.t 1) (some 2)),
 Qm 101 5,
 Qo 102 (.fld (.t 8) 1),
 Qo 103 (.ldl (.t 102) none),
 Qo 104 (.fld (.t 8) 2),
 Qo 105 (.ldl (.t 104) none),
 Qm 106 10,
 Qo 107 (.ix (.t 105) (.t 106) 2),
 Qo 108 (.fld (.t 107) 1),
 Qo 109 (.ld (.t 108) none),
 Qm 110 12,
 Qo 111 (.ix (.t 109) (.t 110) 3),
 Qo 112 (.ld (.t 111) (some 3)),
 Qo 113 (.call 60 [(.t 100),(.t 101),(.t 103),(.t 112),(.c (.d (.bool true)))]),
 Qm 99 113,
 Qo 114 (.ext (.t 99) 0),
 Qo 115 (.ext (.t 99) 1),
 ⟨none,.st (.t 13) (.t 114) 3,none⟩,
 Qm 14 115] [1,3,4,5,6,7,8,9,10,11,12,13,14])
 (.seq (.seq (.reg [Qm 116 14,
 Qo 117 (.bin .neq (.t 116) (.c (.d (.int .i64 0))))] [1,3,4,5,6,7,8,9,10,11,12,13,14,117])
 (.cond (.t 117) (.seq (.reg [Qm 118 14,
 Qm 119 7,
 Qo 120 (.bld [(.d (.int .i64 0)),(.d (.int .i64 0)),(.d (.int .i64 0))] [(0,1,(.t 118)),(1,1,(.c (.d (.int .i64 (-1))))),(2,1,(.t 119))]),
 Qo 2 (.mv (.c .AY)),
 ⟨none,.st (.t 3) (.t 120) 3,none⟩] [2,3])
 .ret)
 .skip))
 (.reg [Qo 121 (.fld (.t 11) 1),
 Qo 122 (.ldl (.t 121) none),
 Qo 123 (.ldl (.t 13) (some 3)),
 Qo 124 (.bsl 3 1 [(.d (.int .i64 0)),(.d (.int .i64 0)),.AY] [(0,3,(.t 123))]),
 Qo 125 (.app 57 3 40 (.t 122) (.t 124)),
 Qo 126 (.fld (.t 11) 1),
 ⟨none,.st (.t 126) (.t 125) 1,none⟩] [1,3,4,5,6,7,8,9,10,11,12]))))
 (.reg [Qm 97 12,
 Qo 98 (.bin .add (.t 97) (.c (.d (.int .i64 1)))),
 Qm 12 98] [1,3,4,5,6,7,8,9,10,11,12])))
def RL:C:=(.seq (.seq (.reg [Qm 54 10,
 Qo 55 (.fld (.t 8) 2),
 Qo 56 (.ldl (.t 55) none),
 Qo 57 (.len (.t 56)),
 Qo 58 (.bin .lss (.t 54) (.t 57))] [1,3,4,5,6,7,8,9,10,58])
 (.cond (.t 58) .skip
 (.exit 2)))
 (.seq (.block 3 (.seq (.seq (.reg [Qm 61 6,
 Qo 62 (.fld (.t 8) 2),
 Qo 63 (.ldl (.t 62) none),
 Qm 64 10,
 Qo 65 (.ix (.t 63) (.t 64) 2),
 Qo 66 (.fld (.t 65) 0),
 Qo 67 (.ld (.t 66) none),
 Qo 68 (.call 59 [(.t 61),(.t 67)]),
 Qo 69 (.bin .geq (.t 68) (.c (.d (.int .i64 0))))] [1,3,4,5,6,7,8,9,10,69])
 (.cond (.t 69) (.seq (.reg [Qm 70 7,
 Qo 71 (.bld [(.d (.int .i64 0)),(.d (.int .i64 0)),(.d (.int .i64 0))] [(0,1,(.c (.d (.int .i64 4)))),(1,1,(.c (.d (.int .i64 (-1))))),(2,1,(.t 70))]),
 Qo 2 (.mv (.c .AY)),
 ⟨none,.st (.t 3) (.t 71) 3,none⟩] [2,3])
 .ret)
 .skip))
 (.seq (.reg [Qm 72 6,
 Qo 73 (.fld (.t 8) 2),
 Qo 74 (.ldl (.t 73) none),
 Qm 75 10,
 Qo 76 (.ix (.t 74) (.t 75) 2),
 Qo 77 (.fld (.t 76) 0),
 Qo 78 (.ld (.t 77) none),
 Qo 79 (.bsl 1 1 [(.d (.str []))] [(0,1,(.t 78))]),
 Qo 80 (.app 9 1 16 (.t 72) (.t 79)),
 Qm 6 80] [1,3,4,5,6,7,8,9,10])
 (.seq (.reg [Qo 81 (.fld (.t 8) 2),
 Qo 82 (.ldl (.t 81) none),
 Qm 83 10,
 Qo 84 (.ix (.t 82) (.t 83) 2),
 Qo 85 (.fld (.t 84) 0),
 Qo 86 (.ld (.t 85) none),
 Qo 87 (.bld [(.d (.str [])),.AY] [(0,1,(.t 86))]),
 Qo 11 (.al [(.d (.str [])),.AY] false),
 ⟨none,.st (.t 11) (.t 87) 2,none⟩] [1,3,4,5,6,7,8,9,10,11])
 (.seq (.seq (.reg [Qo 12 (.mv (.c (.d (.int .i64 0))))] [1,3,4,5,6,7,8,9,10,11,12])
 (.block 4 (.loop RK)))
 (.reg [Qo 127 (.fld (.t 9) 2),
 Qo 128 (.ldl (.t 127) none),
 Qo 129 (.ldl (.t 11) (some 2)),
 Qo 130 (.bsl 2 1 [(.d (.str [])),.AY] [(0,2,(.t 129))]),
 Qo 131 (.app 124 2 40 (.t 128) (.t 130)),
 Qo 132 (.fld (.t 9) 2),
 ⟨none,.st (.t 132) (.t 131) 1,none⟩] [1,3,4,5,6,7,8,9,10]))))))
 (.reg [Qm 59 10,
 Qo 60 (.bin .add (.t 59) (.c (.d (.int .i64 1)))),
 Qm 10 60] [1,3,4,5,6,7,8,9,10])))
def XN:C:=(.seq (.seq (.reg [Qm 19 7,
 Qo 20 (.fld (.t 1) 0),
 Qo 21 (.ldl (.t 20) none),
 Qo 22 (.len (.t 21)),
 Qo 23 (.bin .lss (.t 19) (.t 22))] [1,3,4,5,6,7,23])
 (.cond (.t 23) .skip
 (.exit 0)))
 (.seq (.block 1 (.seq (.reg [Qo 26 (.fld (.t 1) 0),
 Qo 27 (.ldl (.t 26) none),
 Qm 28 7,
 Qo 29 (.ix (.t 27) (.t 28) 3),
 Qo 30 (.ld (.t 29) (some 3)),
 Qo 8 (.al [(.d (.str [])),.AY,.AY] false),
 ⟨none,.st (.t 8) (.t 30) 3,none⟩] [1,3,4,5,6,7,8])
 (.seq (.seq (.reg [Qm 31 5,
 Qo 32 (.fld (.t 8) 0),
 Qo 33 (.ldl (.t 32) none),
 Qo 34 (.call 59 [(.t 31),(.t 33)]),
 Qo 35 (.bin .geq (.t 34) (.c (.d (.int .i64 0)))),
 Qm 36 35,
 ⟨some 37,.fld (.t 8) 1,some (36,false)⟩,
 ⟨some 38,.ldl (.t 37) none,some (36,false)⟩,
 ⟨some 39,.call 38 [(.t 38)],some (36,false)⟩,
 Qo 40 (.pick (.t 36) (.c (.d (.bool true))) (.t 39))] [1,3,4,5,6,7,8,40])
 (.cond (.t 40) (.seq (.reg [Qm 41 7,
 Qo 42 (.bld [(.d (.int .i64 0)),(.d (.int .i64 0)),(.d (.int .i64 0))] [(0,1,(.c (.d (.int .i64 4)))),(1,1,(.c (.d (.int .i64 (-1))))),(2,1,(.t 41))]),
 Qo 2 (.mv (.c .AY)),
 ⟨none,.st (.t 3) (.t 42) 3,none⟩] [2,3])
 .ret)
 .skip))
 (.seq (.reg [Qm 43 5,
 Qo 44 (.fld (.t 8) 0),
 Qo 45 (.ldl (.t 44) none),
 Qo 46 (.bsl 1 1 [(.d (.str []))] [(0,1,(.t 45))]),
 Qo 47 (.app 9 1 16 (.t 43) (.t 46)),
 Qm 5 47] [1,3,4,5,6,7,8])
 (.seq (.reg [Qo 48 (.fld (.t 8) 0),
 Qo 49 (.ldl (.t 48) none),
 Qo 50 (.fld (.t 8) 1),
 Qo 51 (.ldl (.t 50) none),
 Qo 52 (.len (.t 51)),
 Qo 53 (.bld [(.d (.str [])),(.d (.int .i64 0)),.AY] [(0,1,(.t 49)),(1,1,(.t 52))]),
 Qo 9 (.al [(.d (.str [])),(.d (.int .i64 0)),.AY] false),
 ⟨none,.st (.t 9) (.t 53) 3,none⟩] [1,3,4,5,6,7,8,9])
 (.seq (.seq (.reg [Qo 10 (.mv (.c (.d (.int .i64 0))))] [1,3,4,5,6,7,8,9,10])
 (.block 2 (.loop RL)))
 (.reg [Qm 133 4,
 Qo 134 (.ldl (.t 9) (some 3)),
 Qo 135 (.bsl 3 1 [(.d (.str [])),(.d (.int .i64 0)),.AY] [(0,3,(.t 134))]),
 Qo 136 (.app 122 3 48 (.t 133) (.t 135)),
 Qm 4 136] [1,3,4,5,6,7])))))))
 (.reg [Qm 24 7,
 Qo 25 (.bin .add (.t 24) (.c (.d (.int .i64 1)))),
 Qm 7 25] [1,3,4,5,6,7])))
def cV:C:=(.seq (.reg [Qo 1 (.box (.t 0) false),
 Qo 2 (.mv (.c .AY)),
 Qo 3 (.al [(.d (.int .i64 0)),(.d (.int .i64 0)),(.d (.int .i64 0))] false)] [1,3])
 (.seq (.seq (.reg [Qo 15 (.ldl (.t 1) (some 2)),
 Qo 16 (.call 58 [(.t 15)]),
 Qo 17 (.un .not (.t 16))] [1,3,17])
 (.cond (.t 17) (.seq (.reg [Qo 18 (.bld [(.d (.int .i64 0)),(.d (.int .i64 0)),(.d (.int .i64 0))] [(0,1,(.c (.d (.int .i64 1)))),(1,1,(.c (.d (.int .i64 (-1)))))]),
 Qo 2 (.mv (.c .AY)),
 ⟨none,.st (.t 3) (.t 18) 3,none⟩] [2,3])
 .ret)
 .skip))
 (.seq (.reg [Qo 4 (.mv (.c .AY))] [1,3,4])
 (.seq (.reg [Qo 5 (.mv (.c .AY)),
 Qo 6 (.mv (.c .AY))] [1,3,4,5,6])
 (.seq (.seq (.reg [Qo 7 (.mv (.c (.d (.int .i64 0))))] [1,3,4,5,6,7])
 (.block 0 (.loop XN)))
 (.seq (.reg [Qm 137 4,
 Qo 138 (.bld [(.d (.int .i64 0)),(.d (.int .i64 0)),(.d (.int .i64 0))] []),
 Qm 2 137,
 ⟨none,.st (.t 3) (.t 138) 3,none⟩] [2,3])
 .ret))))))
def fL:List (List Nat×PT):=[([1,3],.done),([1,3,17],.done),([2,3],.done),([1,3,4],.done),([1,3,4,5,6],.done),([1,3,4,5,6,7],.done),([1,3,4,5,6,7,23],.done),([1,3,4,5,6,7,8],.done),([1,3,4,5,6,7,8,40],.done),([2,3],.done),([1,3,4,5,6,7,8],.done),([1,3,4,5,6,7,8,9],.done),([1,3,4,5,6,7,8,9,10],.done),([1,3,4,5,6,7,8,9,10,58],.done),([1,3,4,5,6,7,8,9,10,69],.done),([2,3],.done),([1,3,4,5,6,7,8,9,10],.done),([1,3,4,5,6,7,8,9,10,11],.done),([1,3,4,5,6,7,8,9,10,11,12],.done),([1,3,4,5,6,7,8,9,10,11,12,96],.done),([1,3,4,5,6,7,8,9,10,11,12,13,14],(.lay 17 (.one 0 (.one 1 (.one 2 (.one 3 (.one 4 (.one 5 (.one 6 (.one 7 (.one 8 (.one 9 (.one 10 (.one 11 (.one 12 (.one 13 (.one 14 (.one 15 (.one 16 (.one 18 (.one 19 .done))))))))))))))))))))),([1,3,4,5,6,7,8,9,10,11,12,13,14,117],.done),([2,3],.done),([1,3,4,5,6,7,8,9,10,11,12],.done),([1,3,4,5,6,7,8,9,10,11,12],.done),([1,3,4,5,6,7,8,9,10],.done),([1,3,4,5,6,7,8,9,10],.done),([1,3,4,5,6,7],.done),([1,3,4,5,6,7],.done),([2,3],.done)]
noncomputable def Dq:Cx:=⟨Tryz.prog,23,Tryz.f23,139,[300015,300021,300027,300033,300038,300045,300049,300051,300056,300063,300074,300082,300090,300100,300103,300105,300122,300123,300128,300129,300134],[],[.t 2,.c 3 (some 3)]⟩
theorem If:Good Dq:=⟨Tryz.func23,by kernel_rfl⟩
theorem aV:Dq.rs=[.t 2,.c 3 (some 3)]:=rfl
theorem dL (hl:args.length≤139) (h:Run Dq K [.code cV] (BP args) E σ):AM Tryz.prog 23 args σ K:=
 AW (cx:=Dq) (code:=Tryz.f23.body.getD .skip) If (by kernel_rfl) Tryz.ntmps23 hl (AX Dq _ fL _ [] (by kernel_rfl)) h
def Ix:C:=(.seq (.seq (.reg [Qm 157 16,
 Qo 158 (.fld (.t 4) 4),
 Qo 159 (.ldl (.t 158) none),
 Qo 160 (.len (.t 159)),
 Qo 161 (.bin .lss (.t 157) (.t 160))] [0,2,4,16,161])
 (.cond (.t 161) .skip
 (.exit 1)))
 (.seq (.block 2 (.seq (.reg [Qm 164 2,
 Qm 17 164] [0,2,4,16,17])
 (.seq (.block 3 (.seq (.reg [Qo 166 (.fld (.t 4) 0),
 Qo 167 (.ldl (.t 166) none),
 Qo 168 (.bin .eql (.t 167) (.c (.d (.int .i64 7)))),
 Qm 169 168,
 ⟨some 170,.fld (.t 4) 0,some (169,false)⟩,
 ⟨some 171,.ldl (.t 170) none,some (169,false)⟩,
 ⟨some 172,.bin .eql (.t 171) (.c (.d (.int .i64 17))),some (169,false)⟩,
 Qo 173 (.pick (.t 169) (.c (.d (.bool true))) (.t 172)),
 Qm 174 173,
 ⟨some 175,.mv (.t 16),some (174,true)⟩,
 ⟨some 176,.bin .eql (.t 175) (.c (.d (.int .i64 1))),some (174,true)⟩,
 Qo 177 (.pick (.t 174) (.t 176) (.c (.d (.bool false)))),
 Qm 178 177,
 ⟨some 179,.fld (.t 4) 1,some (178,true)⟩,
 ⟨some 180,.ldl (.t 179) none,some (178,true)⟩,
 ⟨some 181,.bin .neq (.t 180) (.c (.d (.str []))),some (178,true)⟩,
 Qo 182 (.pick (.t 178) (.t 181) (.c (.d (.bool false)))),
 Qm 165 182] [0,2,4,16,17,165])
 (.cond (.t 165) (.reg [Qm 183 17,
 Qo 184 (.fld (.t 4) 1),
 Qo 185 (.ldl (.t 184) none),
 Qo 186 (.bsl 1 1 [(.d (.str []))] [(0,1,(.t 185))]),
 Qo 187 (.app 9 1 16 (.t 183) (.t 186)),
 Qm 17 187] [0,2,4,16,17])
 (.seq (.reg [Qo 189 (.fld (.t 4) 0),
 Qo 190 (.ldl (.t 189) none),
 Qo 191 (.bin .eql (.t 190) (.c (.d (.int .i64 8)))),
 Qm 192 191,
 ⟨some 193,.mv (.t 16),some (192,true)⟩,
 ⟨some 194,.bin .eql (.t 193) (.c (.d (.int .i64 1))),some (192,true)⟩,
 Qo 195 (.pick (.t 192) (.t 194) (.c (.d (.bool false)))),
 Qm 196 195,
 ⟨some 197,.fld (.t 4) 0,some (196,false)⟩,
 ⟨some 198,.ldl (.t 197) none,some (196,false)⟩,
 ⟨some 199,.bin .eql (.t 198) (.c (.d (.int .i64 11))),some (196,false)⟩,
 Qo 200 (.pick (.t 196) (.c (.d (.bool true))) (.t 199)),
 Qm 188 200] [0,2,4,16,17,188])
 (.cond (.t 188) (.reg [Qm 201 17,
 Qo 202 (.fld (.t 4) 3),
 Qo 203 (.ldl (.t 202) none),
 Qo 204 (.app 9 1 16 (.t 201) (.t 203)),
 Qm 17 204] [0,2,4,16,17])
 .skip)))))
 (.seq (.reg [Qm 206 0,
 Qo 207 (.fld (.t 4) 4),
 Qo 208 (.ldl (.t 207) none),
 Qm 209 16,
 Qo 210 (.ix (.t 208) (.t 209) 6),
 Qo 211 (.ld (.t 210) (some 6)),
 Qm 212 17,
 Qo 213 (.call 34 [(.t 206),(.t 211),(.t 212)]),
 Qm 205 213,
 Qo 214 (.ext (.t 205) 0),
 Qo 215 (.ext (.t 205) 1),
 Qm 18 214,
 Qm 19 215] [0,2,4,16,18,19])
 (.seq (.reg [Qm 216 18,
 Qo 217 (.bin .neq (.t 216) (.c (.d (.int .i64 0))))] [0,2,4,16,18,19,217])
 (.cond (.t 217) (.seq (.reg [Qm 218 18,
 Qm 219 19,
 Qm 6 218,
 Qm 7 219] [6,7])
 .ret)
 .skip))))))
 (.reg [Qm 162 16,
 Qo 163 (.bin .add (.t 162) (.c (.d (.int .i64 1)))),
 Qm 16 163] [0,2,4,16])))
def Iy:C:=(.seq (.seq (.reg [Qm 220 20,
 Qo 221 (.fld (.t 4) 5),
 Qo 222 (.ldl (.t 221) none),
 Qo 223 (.len (.t 222)),
 Qo 224 (.bin .lss (.t 220) (.t 223))] [0,2,4,20,224])
 (.cond (.t 224) .skip
 (.exit 4)))
 (.seq (.block 5 (.seq (.Sa (.one (Qm 228 0)
 (.one (Qo 229 (.fld (.t 4) 5))
 (.one (Qo 230 (.ldl (.t 229) none))
 (.one (Qm 231 20)
 (.one (Qo 232 (.ix (.t 230) (.t 231) 8))
 (.one (Qo 233 (.fld (.t 232) 2))
 (.one (Qm 235 2)
 (.one (Qo 236 (.fld (.t 4) 5))
 (.one (Qo 237 (.ldl (.t 236) none))
 (.one (Qm 238 20)
 (.one (Qo 239 (.ix (.t 237) (.t 238) 8))
 (.one (Qo 240 (.fld (.t 239) 1))
 (.one (Qo 241 (.ld (.t 240) none))
 (.alt (Qo 234 (.ld (.t 233) (some 6)))
 (.one (Qo 242 (.app 9 1 16 (.t 235) (.t 241)))
 (.one (Qo 243 (.call 34 [(.t 228),(.t 234),(.t 242)]))
 (.one (Qm 227 243)
 (.one (Qo 244 (.ext (.t 227) 0))
 (.one (Qo 245 (.ext (.t 227) 1))
 (.one (Qm 21 244)
 (.one (Qm 22 245)
 .done)))))))
 (.alt (Qo 242 (.app 9 1 16 (.t 235) (.t 241)))
 (.one (Qo 234 (.ld (.t 233) (some 6)))
 (.one (Qo 243 (.call 34 [(.t 228),(.t 234),(.t 242)]))
 (.one (Qm 227 243)
 (.one (Qo 244 (.ext (.t 227) 0))
 (.one (Qo 245 (.ext (.t 227) 1))
 (.one (Qm 21 244)
 (.one (Qm 22 245)
 .done)))))))
 .done))))))))))))))) [0,2,4,20,21,22])
 (.seq (.reg [Qm 246 21,
 Qo 247 (.bin .neq (.t 246) (.c (.d (.int .i64 0))))] [0,2,4,20,21,22,247])
 (.cond (.t 247) (.seq (.reg [Qm 248 21,
 Qm 249 22,
 Qm 6 248,
 Qm 7 249] [6,7])
 .ret)
 .skip))))
 (.reg [Qm 225 20,
 Qo 226 (.bin .add (.t 225) (.c (.d (.int .i64 1)))),
 Qm 20 226] [0,2,4,20])))
def RM:C:=(.seq (.reg [Qo 4 (.box (.t 1) false),
 Qo 6 (.mv (.c (.d (.int .i64 0)))),
 Qo 7 (.mv (.c (.d (.int .i64 0))))] [0,2,4])
 (.seq (.reg [Qm 23 0,
 Qo 24 (.nck (.t 23)),
 Qo 25 (.fld (.t 24) 3),
 Qo 26 (.ld (.t 25) none),
 Qm 8 26] [0,2,4,8])
 (.seq (.reg [Qm 27 0,
 Qo 28 (.nck (.t 27)),
 Qo 29 (.fld (.t 28) 3),
 Qo 30 (.ld (.t 29) none),
 Qo 31 (.bin .add (.t 30) (.c (.d (.int .i64 1)))),
 Qo 32 (.nck (.t 27)),
 Qo 33 (.fld (.t 32) 3),
 ⟨none,.st (.t 33) (.t 31) 1,none⟩] [0,2,4,8])
 (.seq (.reg [Qm 34 2,
 Qm 35 2,
 Qo 36 (.len (.t 35)),
 Qm 37 2,
 Qo 38 (.len (.t 37)),
 Qo 39 (.sls (.t 34) none (some (.t 36)) (some (.t 38)) 1),
 Qm 2 39] [0,2,4,8])
 (.seq (.seq (.reg [Qo 40 (.fld (.t 4) 0),
 Qo 41 (.ldl (.t 40) none)] [0,2,4,8,41])
 (.block 0 (.seq (.reg [Qo 43 (.bin .eql (.t 41) (.c (.d (.int .i64 4)))),
 Qm 42 43] [0,2,4,8,41,42])
 (.cond (.t 42) (.seq (.reg [Qm 44 2,
 Qo 45 (.fld (.t 4) 1),
 Qo 46 (.ldl (.t 45) none),
 Qo 47 (.call 59 [(.t 44),(.t 46)]),
 Qo 48 (.bin .lss (.t 47) (.c (.d (.int .i64 0))))] [0,2,4,8,48])
 (.cond (.t 48) (.seq (.reg [Qm 49 0,
 Qo 50 (.fld (.t 4) 1),
 Qo 51 (.ldl (.t 50) none),
 Qo 52 (.call 37 [(.t 49),(.t 51)]),
 Qm 9 52] [0,2,4,8,9])
 (.seq (.seq (.reg [Qm 53 9,
 Qo 54 (.bin .lss (.t 53) (.c (.d (.int .i64 0))))] [0,2,4,8,9,54])
 (.cond (.t 54) (.seq (.reg [Qm 55 8,
 Qo 6 (.mv (.c (.d (.int .i64 3)))),
 Qm 7 55] [6,7])
 .ret)
 .skip))
 (.reg [Qm 56 0,
 Qm 57 0,
 Qo 58 (.nck (.t 57)),
 Qo 59 (.fld (.t 58) 4),
 Qo 60 (.ld (.t 59) none),
 Qm 61 9,
 Qo 62 (.bsl 1 1 [(.d (.int .i64 0))] [(0,1,(.t 61))]),
 Qo 63 (.app 3 1 8 (.t 60) (.t 62)),
 Qo 64 (.nck (.t 56)),
 Qo 65 (.fld (.t 64) 4),
 ⟨none,.st (.t 65) (.t 63) 1,none⟩] [0,2,4])))
 .skip))
 (.seq (.reg [Qo 67 (.bin .eql (.t 41) (.c (.d (.int .i64 6)))),
 Qm 66 67] [0,2,4,8,41,66])
 (.cond (.t 66) (.seq (.reg [Qm 69 0,
 Qo 70 (.nck (.t 69)),
 Qo 71 (.fld (.t 70) 2),
 Qo 72 (.ld (.t 71) none),
 Qo 73 (.fld (.t 4) 1),
 Qo 74 (.ldl (.t 73) none),
 Qo 75 (.call 67 [(.t 72),(.t 74)]),
 Qm 68 75,
 Qo 76 (.ext (.t 68) 0),
 Qo 77 (.ext (.t 68) 1),
 Qo 78 (.ext (.t 68) 2),
 Qm 10 76,
 Qm 11 77,
 Qm 12 78] [0,2,4,8,10,11,12])
 (.seq (.seq (.reg [Qm 79 12,
 Qo 80 (.un .not (.t 79))] [0,2,4,8,10,11,80])
 (.cond (.t 80) (.seq (.reg [Qm 81 8,
 Qo 6 (.mv (.c (.d (.int .i64 3)))),
 Qm 7 81] [6,7])
 .ret)
 .skip))
 (.seq (.reg [Qo 82 (.fld (.t 4) 4),
 Qo 83 (.ldl (.t 82) none),
 Qo 84 (.len (.t 83)),
 Qm 85 0,
 Qo 86 (.nck (.t 85)),
 Qo 87 (.fld (.t 86) 2),
 Qo 88 (.ld (.t 87) none),
 Qm 89 10,
 Qo 90 (.ix (.t 88) (.t 89) 3),
 Qo 91 (.fld (.t 90) 2),
 Qo 92 (.ld (.t 91) none),
 Qm 93 11,
 Qo 94 (.ix (.t 92) (.t 93) 2),
 Qo 95 (.fld (.t 94) 1),
 Qo 96 (.ld (.t 95) none),
 Qo 97 (.len (.t 96)),
 Qo 98 (.bin .neq (.t 84) (.t 97))] [0,2,4,8,98])
 (.cond (.t 98) (.seq (.reg [Qm 99 8,
 Qo 6 (.mv (.c (.d (.int .i64 5)))),
 Qm 7 99] [6,7])
 .ret)
 .skip))))
 (.seq (.seq (.reg [Qo 101 (.bin .eql (.t 41) (.c (.d (.int .i64 8)))),
 Qm 100 101] [0,2,4,8,41,100])
 (.cond (.t 100) .skip
 (.reg [Qo 102 (.bin .eql (.t 41) (.c (.d (.int .i64 11)))),
 Qm 100 102] [0,2,4,8,41,100])))
 (.cond (.t 100) (.seq (.reg [Qo 103 (.fld (.t 4) 3),
 Qo 104 (.ldl (.t 103) none),
 Qo 105 (.call 38 [(.t 104)])] [0,2,4,8,105])
 (.cond (.t 105) (.seq (.reg [Qm 106 8,
 Qo 6 (.mv (.c (.d (.int .i64 4)))),
 Qm 7 106] [6,7])
 .ret)
 .skip))
 (.seq (.reg [Qo 108 (.bin .eql (.t 41) (.c (.d (.int .i64 10)))),
 Qm 107 108] [0,2,4,8,41,107])
 (.cond (.t 107) (.seq (.reg [Qm 109 0,
 Qo 110 (.fld (.t 4) 5),
 Qo 111 (.ldl (.t 110) none),
 Qo 112 (.call 68 [(.t 109),(.t 111)]),
 Qm 13 112] [0,2,4,8,13])
 (.seq (.reg [Qm 113 13,
 Qo 114 (.bin .neq (.t 113) (.c (.d (.int .i64 0))))] [0,2,4,8,13,114])
 (.cond (.t 114) (.seq (.reg [Qm 115 13,
 Qm 116 8,
 Qm 6 115,
 Qm 7 116] [6,7])
 .ret)
 .skip)))
 (.seq (.reg [Qo 118 (.bin .eql (.t 41) (.c (.d (.int .i64 12)))),
 Qm 117 118] [0,2,4,8,117])
 (.cond (.t 117) (.seq (.reg [Qo 119 (.fld (.t 4) 4),
 Qo 120 (.ldl (.t 119) none),
 Qo 121 (.ix (.t 120) (.c (.d (.int .i64 0))) 6),
 Qo 122 (.ld (.t 121) (some 6)),
 Qo 14 (.al [(.d (.int .i64 0)),(.d (.str [])),(.d (.int .i64 0)),.AY,.AY,.AY] false),
 ⟨none,.st (.t 14) (.t 122) 6,none⟩] [0,2,4,8,14])
 (.seq (.reg [Qo 123 (.fld (.t 14) 0),
 Qo 124 (.ldl (.t 123) none),
 Qo 125 (.bin .eql (.t 124) (.c (.d (.int .i64 4)))),
 Qm 126 125,
 ⟨some 127,.mv (.t 2),some (126,true)⟩,
 ⟨some 128,.fld (.t 14) 1,some (126,true)⟩,
 ⟨some 129,.ldl (.t 128) none,some (126,true)⟩,
 ⟨some 130,.call 59 [(.t 127),(.t 129)],some (126,true)⟩,
 ⟨some 131,.bin .lss (.t 130) (.c (.d (.int .i64 0))),some (126,true)⟩,
 Qo 132 (.pick (.t 126) (.t 131) (.c (.d (.bool false))))] [0,2,4,8,14,132])
 (.cond (.t 132) (.seq (.reg [Qm 133 0,
 Qo 134 (.fld (.t 14) 1),
 Qo 135 (.ldl (.t 134) none),
 Qo 136 (.call 37 [(.t 133),(.t 135)]),
 Qm 15 136] [0,2,4,8,15])
 (.seq (.reg [Qm 137 15,
 Qo 138 (.bin .geq (.t 137) (.c (.d (.int .i64 0)))),
 Qm 139 138,
 ⟨some 140,.mv (.t 0),some (139,true)⟩,
 ⟨some 141,.nck (.t 140),some (139,true)⟩,
 ⟨some 142,.fld (.t 141) 0,some (139,true)⟩,
 ⟨some 143,.fld (.t 142) 1,some (139,true)⟩,
 ⟨some 144,.ld (.t 143) none,some (139,true)⟩,
 ⟨some 145,.mv (.t 15),some (139,true)⟩,
 ⟨some 146,.ix (.t 144) (.t 145) 8,some (139,true)⟩,
 ⟨some 147,.fld (.t 146) 1,some (139,true)⟩,
 ⟨some 148,.ld (.t 147) none,some (139,true)⟩,
 ⟨some 149,.len (.t 148),some (139,true)⟩,
 ⟨some 150,.fld (.t 4) 4,some (139,true)⟩,
 ⟨some 151,.ldl (.t 150) none,some (139,true)⟩,
 ⟨some 152,.len (.t 151),some (139,true)⟩,
 ⟨some 153,.bin .sub (.t 152) (.c (.d (.int .i64 1))),some (139,true)⟩,
 ⟨some 154,.bin .neq (.t 149) (.t 153),some (139,true)⟩,
 Qo 155 (.pick (.t 139) (.t 154) (.c (.d (.bool false))))] [0,2,4,8,155])
 (.cond (.t 155) (.seq (.reg [Qm 156 8,
 Qo 6 (.mv (.c (.d (.int .i64 5)))),
 Qm 7 156] [6,7])
 .ret)
 .skip)))
 .skip)))
 .skip))))))))))))
 (.seq (.seq (.reg [Qo 16 (.mv (.c (.d (.int .i64 0))))] [0,2,4,16])
 (.block 1 (.loop Ix)))
 (.seq (.seq (.reg [Qo 20 (.mv (.c (.d (.int .i64 0))))] [0,2,4,20])
 (.block 4 (.loop Iy)))
 (.seq (.reg [Qo 6 (.mv (.c (.d (.int .i64 0)))),
 Qo 7 (.mv (.c (.d (.int .i64 0))))] [6,7])
 .ret))))))))
def Rs:List (List Nat×PT):=[([0,2,4],.done),([0,2,4,8],.done),([0,2,4,8],.done),([0,2,4,8],.done),([0,2,4,8,41],.done),([0,2,4,8,41,42],.done),([0,2,4,8,48],.done),([0,2,4,8,9],.done),([0,2,4,8,9,54],.done),([6,7],.done),([0,2,4],.done),([0,2,4,8,41,66],.done),([0,2,4,8,10,11,12],.done),([0,2,4,8,10,11,80],.done),([6,7],.done),([0,2,4,8,98],.done),([6,7],.done),([0,2,4,8,41,100],.done),([0,2,4,8,41,100],.done),([0,2,4,8,105],.done),([6,7],.done),([0,2,4,8,41,107],.done),([0,2,4,8,13],.done),([0,2,4,8,13,114],.done),([6,7],.done),([0,2,4,8,117],.done),([0,2,4,8,14],.done),([0,2,4,8,14,132],.done),([0,2,4,8,15],.done),([0,2,4,8,155],.done),([6,7],.done),([0,2,4,16],.done),([0,2,4,16,161],.done),([0,2,4,16,17],.done),([0,2,4,16,17,165],.done),([0,2,4,16,17],.done),([0,2,4,16,17,188],.done),([0,2,4,16,17],.done),([0,2,4,16,18,19],.done),([0,2,4,16,18,19,217],.done),([6,7],.done),([0,2,4,16],.done),([0,2,4,20],.done),([0,2,4,20,224],.done),([0,2,4,20,21,22],(.one 0 (.one 1 (.one 2 (.one 3 (.one 4 (.one 5 (.one 7 (.one 8 (.one 9 (.one 10 (.one 11 (.one 12 (.one 13 (.alt 6 (.one 14 (.one 15 (.one 16 (.one 17 (.one 18 (.one 19 (.one 20 .done))))))) (.alt 14 (.one 6 (.one 15 (.one 16 (.one 17 (.one 18 (.one 19 (.one 20 .done))))))) .done)))))))))))))))),([0,2,4,20,21,22,247],.done),([6,7],.done),([0,2,4,20],.done),([6,7],.done)]
noncomputable def Dr:Cx:=⟨Tryz.prog,34,Tryz.f34,250,[300041,300046,300051,300074,300083,300104,300111,300120,300124,300129,300135,300151,300159,300167,300171,300180,300185,300190,300198,300203,300208,300222,300230,300237],[],[.t 6,.t 7]⟩
theorem At:Good Dr:=⟨Tryz.func34,by kernel_rfl⟩
theorem Qk:Dr.rs=[.t 6,.t 7]:=rfl
theorem Ra (hl:args.length≤250) (h:Run Dr K [.code RM] (BP args) E σ):AM Tryz.prog 34 args σ K:=
 AW (cx:=Dr) (code:=Tryz.f34.body.getD .skip) At (by kernel_rfl) Tryz.ntmps34 hl (AX Dr _ Rs _ [] (by kernel_rfl)) h
def KY:C:=(.seq (.reg [Qo 61 (.bin .lss (.t 60) (.t 59))] [0,3,4,5,6,58,59,60,61])
 (.seq (.cond (.t 61) .skip
 (.exit 4))
 (.seq (.block 5 (.seq (.reg [Qo 62 (.ix (.t 58) (.t 60) 1),
 Qo 63 (.ld (.t 62) none),
 Qm 9 63] [0,3,4,5,6,9,58,59,60])
 (.seq (.reg [Qm 64 4,
 Qm 65 5,
 Qo 66 (.ix (.t 64) (.t 65) 1),
 Qo 67 (.ld (.t 66) none),
 Qm 68 9,
 Qo 69 (.ix (.t 67) (.t 68) 1),
 Qo 70 (.ld (.t 69) none),
 Qo 71 (.un .not (.t 70))] [0,3,4,5,6,9,58,59,60,71])
 (.cond (.t 71) (.seq (.reg [Qm 72 4,
 Qm 73 5,
 Qo 74 (.ix (.t 72) (.t 73) 1),
 Qo 75 (.ld (.t 74) none),
 Qm 76 9,
 Qo 77 (.ix (.t 75) (.t 76) 1),
 ⟨none,.st (.t 77) (.c (.d (.bool true))) 1,none⟩] [0,3,4,5,6,9,58,59,60])
 (.reg [Qm 78 6,
 Qm 79 9,
 Qo 80 (.bsl 1 1 [(.d (.int .i64 0))] [(0,1,(.t 79))]),
 Qo 81 (.UO 3 1 8 (.t 78) (.t 80)),
 Qm 6 81] [0,3,4,5,6,58,59,60]))
 .skip))))
 (.reg [Qo 82 (.bin .add (.t 60) (.c (.d (.int .i64 1)))),
 Qm 60 82] [0,3,4,5,6,58,59,60]))))
def KZ:C:=(.seq (.seq (.reg [Qm 41 6,
 Qo 42 (.len (.t 41)),
 Qo 43 (.bin .gtr (.t 42) (.c (.d (.int .i64 0))))] [0,3,4,5,6,43])
 (.cond (.t 43) .skip
 (.exit 2)))
 (.block 3 (.seq (.reg [Qm 44 6,
 Qm 45 6,
 Qo 46 (.len (.t 45)),
 Qo 47 (.bin .sub (.t 46) (.c (.d (.int .i64 1)))),
 Qo 48 (.ix (.t 44) (.t 47) 1),
 Qo 49 (.ld (.t 48) none),
 Qm 7 49] [0,3,4,5,6,7])
 (.seq (.reg [Qm 50 6,
 Qm 51 6,
 Qo 52 (.len (.t 51)),
 Qo 53 (.bin .sub (.t 52) (.c (.d (.int .i64 1)))),
 Qo 54 (.trn (.t 50) (.t 53)),
 Qm 6 54] [0,3,4,5,6,7])
 (.seq (.reg [Qm 55 0,
 Qm 56 7,
 Qo 57 (.ix (.t 55) (.t 56) 1),
 Qo 58 (.ld (.t 57) none),
 Qo 59 (.len (.t 58)),
 Qo 60 (.mv (.c (.d (.int .i64 0))))] [0,3,4,5,6,58,59,60])
 (.block 4 (.loop KY)))))))
def K0:C:=(.seq (.seq (.reg [Qm 23 5,
 Qm 24 3,
 Qo 25 (.bin .lss (.t 23) (.t 24))] [0,3,4,5,25])
 (.cond (.t 25) .skip
 (.exit 0)))
 (.seq (.block 1 (.seq (.reg [Qm 28 4,
 Qm 29 5,
 Qm 30 3,
 Qo 31 (.msl 4 1 1 [(.d (.bool false))] (.t 30) (.t 30)),
 Qo 32 (.ix (.t 28) (.t 29) 1),
 ⟨none,.st (.t 32) (.t 31) 1,none⟩] [0,3,4,5])
 (.seq (.reg [Qm 33 5,
 Qo 34 (.QX 3 1 1 [(.d (.int .i64 0))] [(0,1,(.t 33))]),
 Qm 6 34] [0,3,4,5,6])
 (.seq (.reg [Qm 35 4,
 Qm 36 5,
 Qo 37 (.ix (.t 35) (.t 36) 1),
 Qo 38 (.ld (.t 37) none),
 Qm 39 5,
 Qo 40 (.ix (.t 38) (.t 39) 1),
 ⟨none,.st (.t 40) (.c (.d (.bool true))) 1,none⟩] [0,3,4,5,6])
 (.block 2 (.loop KZ))))))
 (.reg [Qm 26 5,
 Qo 27 (.bin .add (.t 26) (.c (.d (.int .i64 1)))),
 Qm 5 27] [0,3,4,5])))
def K1:C:=(.seq (.seq (.reg [Qm 98 16,
 Qm 99 3,
 Qo 100 (.bin .lss (.t 98) (.t 99))] [3,4,10,11,12,13,14,15,16,100])
 (.cond (.t 100) .skip
 (.exit 10)))
 (.seq (.block 11 (.seq (.reg [Qm 103 4,
 Qm 104 13,
 Qo 105 (.ix (.t 103) (.t 104) 1),
 Qo 106 (.ld (.t 105) none),
 Qm 107 16,
 Qo 108 (.ix (.t 106) (.t 107) 1),
 Qo 109 (.ld (.t 108) none),
 Qm 110 109,
 ⟨some 111,.mv (.t 4),some (110,true)⟩,
 ⟨some 112,.mv (.t 16),some (110,true)⟩,
 ⟨some 113,.ix (.t 111) (.t 112) 1,some (110,true)⟩,
 ⟨some 114,.ld (.t 113) none,some (110,true)⟩,
 ⟨some 115,.mv (.t 13),some (110,true)⟩,
 ⟨some 116,.ix (.t 114) (.t 115) 1,some (110,true)⟩,
 ⟨some 117,.ld (.t 116) none,some (110,true)⟩,
 Qo 118 (.pick (.t 110) (.t 117) (.c (.d (.bool false))))] [3,4,10,11,12,13,14,15,16,118])
 (.cond (.t 118) (.reg [Qm 119 14,
 Qm 120 16,
 Qo 121 (.bsl 1 1 [(.d (.int .i64 0))] [(0,1,(.t 120))]),
 Qo 122 (.app 3 1 8 (.t 119) (.t 121)),
 Qm 14 122] [3,4,10,11,12,13,14,15,16])
 (.seq (.reg [Qm 123 4,
 Qm 124 13,
 Qo 125 (.ix (.t 123) (.t 124) 1),
 Qo 126 (.ld (.t 125) none),
 Qm 127 16,
 Qo 128 (.ix (.t 126) (.t 127) 1),
 Qo 129 (.ld (.t 128) none),
 Qm 130 129,
 ⟨some 131,.mv (.t 10),some (130,true)⟩,
 ⟨some 132,.mv (.t 16),some (130,true)⟩,
 ⟨some 133,.ix (.t 131) (.t 132) 1,some (130,true)⟩,
 ⟨some 134,.ld (.t 133) none,some (130,true)⟩,
 ⟨some 135,.un .not (.t 134),some (130,true)⟩,
 Qo 136 (.pick (.t 130) (.t 135) (.c (.d (.bool false))))] [3,4,10,11,12,13,14,15,16,136])
 (.cond (.t 136) (.reg [Qo 15 (.mv (.c (.d (.bool false))))] [3,4,10,11,12,13,14,15,16])
 .skip)))))
 (.reg [Qm 101 16,
 Qo 102 (.bin .add (.t 101) (.c (.d (.int .i64 1)))),
 Qm 16 102] [3,4,10,11,12,13,14,15,16])))
def K3:C:=(.seq (.reg [Qo 148 (.bin .lss (.t 147) (.t 146))] [3,4,10,11,13,14,145,146,147,148])
 (.seq (.cond (.t 148) .skip
 (.exit 12))
 (.seq (.block 13 (.seq (.reg [Qo 149 (.ix (.t 145) (.t 147) 1),
 Qo 150 (.ld (.t 149) none),
 Qm 18 150] [3,4,10,11,13,14,18,145,146,147])
 (.reg [Qm 151 10,
 Qm 152 18,
 Qo 153 (.ix (.t 151) (.t 152) 1),
 ⟨none,.st (.t 153) (.c (.d (.bool true))) 1,none⟩] [3,4,10,11,13,14,145,146,147])))
 (.reg [Qo 154 (.bin .add (.t 147) (.c (.d (.int .i64 1)))),
 Qm 147 154] [3,4,10,11,13,14,145,146,147]))))
def K4:C:=(.seq (.seq (.reg [Qm 85 13,
 Qm 86 3,
 Qo 87 (.bin .lss (.t 85) (.t 86)),
 Qm 88 87,
 ⟨some 89,.mv (.t 12),some (88,true)⟩,
 ⟨some 90,.un .not (.t 89),some (88,true)⟩,
 Qo 91 (.pick (.t 88) (.t 90) (.c (.d (.bool false))))] [3,4,10,11,12,13,91])
 (.cond (.t 91) .skip
 (.exit 8)))
 (.seq (.block 9 (.seq (.seq (.reg [Qm 94 10,
 Qm 95 13,
 Qo 96 (.ix (.t 94) (.t 95) 1),
 Qo 97 (.ld (.t 96) none)] [3,4,10,11,12,13,97])
 (.cond (.t 97) (.exit 9)
 .skip))
 (.seq (.reg [Qo 14 (.mv (.c .AY))] [3,4,10,11,12,13,14])
 (.seq (.reg [Qo 15 (.mv (.c (.d (.bool true))))] [3,4,10,11,12,13,14,15])
 (.seq (.seq (.reg [Qo 16 (.mv (.c (.d (.int .i64 0))))] [3,4,10,11,12,13,14,15,16])
 (.block 10 (.loop K1)))
 (.seq (.reg [Qm 137 15,
 Qm 138 137,
 ⟨some 139,.mv (.t 14),some (138,true)⟩,
 ⟨some 140,.ix (.t 139) (.c (.d (.int .i64 0))) 1,some (138,true)⟩,
 ⟨some 141,.ld (.t 140) none,some (138,true)⟩,
 ⟨some 142,.mv (.t 13),some (138,true)⟩,
 ⟨some 143,.bin .eql (.t 141) (.t 142),some (138,true)⟩,
 Qo 144 (.pick (.t 138) (.t 143) (.c (.d (.bool false))))] [3,4,10,11,12,13,14,144])
 (.cond (.t 144) (.seq (.seq (.reg [Qm 145 14,
 Qo 146 (.len (.t 145)),
 Qo 147 (.mv (.c (.d (.int .i64 0))))] [3,4,10,11,13,14,145,146,147])
 (.block 12 (.loop K3)))
 (.seq (.reg [Qm 155 11,
 Qm 156 14,
 Qo 157 (.bsl 1 1 [.AY] [(0,1,(.t 156))]),
 Qo 158 (.app 35 1 24 (.t 155) (.t 157)),
 Qm 11 158] [3,4,10,11,13])
 (.reg [Qo 12 (.mv (.c (.d (.bool true))))] [3,4,10,11,12,13])))
 .skip)))))))
 (.reg [Qm 92 13,
 Qo 93 (.bin .add (.t 92) (.c (.d (.int .i64 1)))),
 Qm 13 93] [3,4,10,11,12,13])))
def K5:C:=(.block 7 (.seq (.reg [Qo 12 (.mv (.c (.d (.bool false))))] [3,4,10,11,12])
 (.seq (.seq (.reg [Qo 13 (.mv (.c (.d (.int .i64 0))))] [3,4,10,11,12,13])
 (.block 8 (.loop K4)))
 (.seq (.reg [Qm 159 12,
 Qo 160 (.un .not (.t 159))] [3,4,10,11,160])
 (.cond (.t 160) (.seq (.reg [Qm 161 11,
 Qm 2 161] [2])
 .ret)
 .skip)))))
def N6:C:=(.seq (.reg [Qo 2 (.mv (.c .AY))] [0])
 (.seq (.reg [Qm 19 0,
 Qo 20 (.len (.t 19)),
 Qm 3 20] [0,3])
 (.seq (.reg [Qm 21 3,
 Qo 22 (.msl 78 1 24 [.AY] (.t 21) (.t 21)),
 Qm 4 22] [0,3,4])
 (.seq (.seq (.reg [Qo 5 (.mv (.c (.d (.int .i64 0))))] [0,3,4,5])
 (.block 0 (.loop K0)))
 (.seq (.reg [Qm 83 3,
 Qo 84 (.msl 4 1 1 [(.d (.bool false))] (.t 83) (.t 83)),
 Qm 10 84] [3,4,10])
 (.seq (.reg [Qo 11 (.mv (.c .AY))] [3,4,10,11])
 (.block 6 (.loop K5))))))))
noncomputable def BJ:Cx:=⟨Tryz.prog,36,Tryz.f36,162,[34,54,81],[],[.t 2]⟩
theorem Nf:Good BJ:=⟨Tryz.func36,by kernel_rfl⟩
theorem Sd:BJ.rs=[.t 2]:=rfl
theorem T3 (hl:args.length≤162) (h:Run BJ K [.code N6] (BP args) E σ):AM Tryz.prog 36 args σ K:=
 AW (cx:=BJ) (code:=Tryz.f36.body.getD .skip) Nf (by kernel_rfl) Tryz.ntmps36 hl (AX BJ _ (B2 N6) _ [] (by kernel_rfl)) h
def MI:C:=(.seq (.seq (.reg [Qm 6 5,
 Qm 7 0,
 Qo 8 (.nck (.t 7)),
 Qo 9 (.fld (.t 8) 0),
 Qo 10 (.fld (.t 9) 1),
 Qo 11 (.ld (.t 10) none),
 Qo 12 (.len (.t 11)),
 Qo 13 (.bin .lss (.t 6) (.t 12))] [0,1,5,13])
 (.cond (.t 13) .skip
 (.exit 0)))
 (.seq (.block 1 (.seq (.reg [Qm 16 0,
 Qo 17 (.nck (.t 16)),
 Qo 18 (.fld (.t 17) 0),
 Qo 19 (.fld (.t 18) 1),
 Qo 20 (.ld (.t 19) none),
 Qm 21 5,
 Qo 22 (.ix (.t 20) (.t 21) 8),
 Qo 23 (.fld (.t 22) 0),
 Qo 24 (.ld (.t 23) none),
 Qm 25 1,
 Qo 26 (.bin .eql (.t 24) (.t 25))] [0,1,5,26])
 (.cond (.t 26) (.seq (.reg [Qm 27 5,
 Qm 4 27] [4])
 .ret)
 .skip)))
 (.reg [Qm 14 5,
 Qo 15 (.bin .add (.t 14) (.c (.d (.int .i64 1)))),
 Qm 5 15] [0,1,5])))
def Iz:C:=(.seq (.reg [Qo 4 (.mv (.c (.d (.int .i64 0))))] [0,1])
 (.seq (.seq (.reg [Qo 5 (.mv (.c (.d (.int .i64 0))))] [0,1,5])
 (.block 0 (.loop MI)))
 (.seq (.reg [Qo 4 (.mv (.c (.d (.int .i64 (-1)))))] [4])
 .ret)))
noncomputable def Dd:Cx:=⟨Tryz.prog,37,Tryz.f37,28,[],[],[.t 4]⟩
theorem GQ:Good Dd:=⟨Tryz.func37,by kernel_rfl⟩
theorem Ns:Dd.rs=[.t 4]:=rfl
theorem O6 (hl:args.length≤28) (h:Run Dd K [.code Iz] (BP args) E σ):AM Tryz.prog 37 args σ K:=
 AW (cx:=Dd) (code:=Tryz.f37.body.getD .skip) GQ (by kernel_rfl) Tryz.ntmps37 hl (AX Dd _ (B2 Iz) _ [] (by kernel_rfl)) h
def Vx:C:=(.seq (.seq (.reg [Qm 11 4,
 Qm 12 3,
 Qo 13 (.bin .lss (.t 11) (.t 12))] [0,3,4,13])
 (.cond (.t 13) .skip
 (.exit 2)))
 (.seq (.block 3 (.seq (.reg [Qm 16 0,
 Qm 17 3,
 Qo 18 (.ix (.t 16) (.t 17) 1),
 Qo 19 (.ld (.t 18) none),
 Qm 20 0,
 Qm 21 4,
 Qo 22 (.ix (.t 20) (.t 21) 1),
 Qo 23 (.ld (.t 22) none),
 Qo 24 (.bin .eql (.t 19) (.t 23)),
 Qm 25 24,
 ⟨some 26,.mv (.t 0),some (25,true)⟩,
 ⟨some 27,.mv (.t 3),some (25,true)⟩,
 ⟨some 28,.ix (.t 26) (.t 27) 1,some (25,true)⟩,
 ⟨some 29,.ld (.t 28) none,some (25,true)⟩,
 ⟨some 30,.bin .neq (.t 29) (.c (.d (.str []))),some (25,true)⟩,
 Qo 31 (.pick (.t 25) (.t 30) (.c (.d (.bool false))))] [0,3,4,31])
 (.cond (.t 31) (.seq (.reg [Qo 2 (.mv (.c (.d (.bool true))))] [2])
 .ret)
 .skip)))
 (.reg [Qm 14 4,
 Qo 15 (.bin .add (.t 14) (.c (.d (.int .i64 1)))),
 Qm 4 15] [0,3,4])))
def Vy:C:=(.seq (.seq (.reg [Qm 5 3,
 Qm 6 0,
 Qo 7 (.len (.t 6)),
 Qo 8 (.bin .lss (.t 5) (.t 7))] [0,3,8])
 (.cond (.t 8) .skip
 (.exit 0)))
 (.seq (.block 1 (.seq (.reg [Qo 4 (.mv (.c (.d (.int .i64 0))))] [0,3,4])
 (.block 2 (.loop Vx))))
 (.reg [Qm 9 3,
 Qo 10 (.bin .add (.t 9) (.c (.d (.int .i64 1)))),
 Qm 3 10] [0,3])))
def U7:C:=(.seq (.reg [Qo 2 (.mv (.c (.d (.bool false))))] [0])
 (.seq (.seq (.reg [Qo 3 (.mv (.c (.d (.int .i64 0))))] [0,3])
 (.block 0 (.loop Vy)))
 (.seq (.reg [Qo 2 (.mv (.c (.d (.bool false))))] [2])
 .ret)))
noncomputable def LA:Cx:=⟨Tryz.prog,38,Tryz.f38,32,[],[],[.t 2]⟩
theorem Q7:Good LA:=⟨Tryz.func38,by kernel_rfl⟩
theorem Yr:LA.rs=[.t 2]:=rfl
theorem Zr (hl:args.length≤32) (h:Run LA K [.code U7] (BP args) E σ):AM Tryz.prog 38 args σ K:=
 AW (cx:=LA) (code:=Tryz.f38.body.getD .skip) Q7 (by kernel_rfl) Tryz.ntmps38 hl (AX LA _ (B2 U7) _ [] (by kernel_rfl)) h
def XP:C:=(.seq (.seq (.reg [Qm 6 5,
 Qm 7 0,
 Qo 8 (.len (.t 7)),
 Qo 9 (.bin .lss (.t 6) (.t 8))] [0,1,5,9])
 (.cond (.t 9) .skip
 (.exit 0)))
 (.seq (.block 1 (.seq (.reg [Qm 12 0,
 Qm 13 5,
 Qo 14 (.ix (.t 12) (.t 13) 1),
 Qo 15 (.ld (.t 14) none),
 Qm 16 1,
 Qo 17 (.bin .eql (.t 15) (.t 16))] [0,1,5,17])
 (.cond (.t 17) (.seq (.reg [Qm 18 5,
 Qm 4 18] [4])
 .ret)
 .skip)))
 (.reg [Qm 10 5,
 Qo 11 (.bin .add (.t 10) (.c (.d (.int .i64 1)))),
 Qm 5 11] [0,1,5])))
def Wc:C:=(.seq (.reg [Qo 4 (.mv (.c (.d (.int .i64 0))))] [0,1])
 (.seq (.seq (.reg [Qo 5 (.mv (.c (.d (.int .i64 0))))] [0,1,5])
 (.block 0 (.loop XP)))
 (.seq (.reg [Qo 4 (.mv (.c (.d (.int .i64 (-1)))))] [4])
 .ret)))
noncomputable def Mi:Cx:=⟨Tryz.prog,59,Tryz.f59,19,[],[],[.t 4]⟩
theorem SK:Good Mi:=⟨Tryz.func59,by kernel_rfl⟩
theorem aW:Mi.rs=[.t 4]:=rfl
theorem dM (hl:args.length≤19) (h:Run Mi K [.code Wc] (BP args) E σ):AM Tryz.prog 59 args σ K:=
 AW (cx:=Mi) (code:=Tryz.f59.body.getD .skip) SK (by kernel_rfl) Tryz.ntmps59 hl (AX Mi _ (B2 Wc) _ [] (by kernel_rfl)) h
def TX:C:=(.seq (.seq (.reg [Qm 63 13,
 Qo 64 (.fld (.t 8) 2),
 Qo 65 (.ldl (.t 64) none),
 Qo 66 (.len (.t 65)),
 Qo 67 (.bin .lss (.t 63) (.t 66))] [1,2,4,5,8,10,12,13,67])
 (.cond (.t 67) .skip
 (.exit 1)))
 (.seq (.block 2 (.seq (.reg [Qo 70 (.fld (.t 8) 2),
 Qo 71 (.ldl (.t 70) none),
 Qm 72 13,
 Qo 73 (.ix (.t 71) (.t 72) 3),
 Qo 74 (.fld (.t 73) 0),
 Qo 75 (.ld (.t 74) none),
 Qo 76 (.bin .neq (.t 75) (.c (.d (.int .i64 4)))),
 Qm 77 76,
 ⟨some 78,.fld (.t 8) 2,some (77,false)⟩,
 ⟨some 79,.ldl (.t 78) none,some (77,false)⟩,
 ⟨some 80,.mv (.t 13),some (77,false)⟩,
 ⟨some 81,.ix (.t 79) (.t 80) 3,some (77,false)⟩,
 ⟨some 82,.fld (.t 81) 1,some (77,false)⟩,
 ⟨some 83,.ld (.t 82) none,some (77,false)⟩,
 ⟨some 84,.mv (.t 2),some (77,false)⟩,
 ⟨some 85,.mv (.t 13),some (77,false)⟩,
 ⟨some 86,.ix (.t 84) (.t 85) 1,some (77,false)⟩,
 ⟨some 87,.ld (.t 86) none,some (77,false)⟩,
 ⟨some 88,.bin .neq (.t 83) (.t 87),some (77,false)⟩,
 Qo 89 (.pick (.t 77) (.c (.d (.bool true))) (.t 88))] [1,2,4,5,8,10,12,13,89])
 (.cond (.t 89) (.seq (.reg [Qo 90 (.bld [(.d (.int .i64 0)),(.d (.int .i64 0)),.AY] []),
 ⟨none,.st (.t 10) (.t 90) 3,none⟩,
 Qo 11 (.mv (.c (.d (.int .i64 7))))] [10,11])
 .ret)
 .skip)))
 (.reg [Qm 68 13,
 Qo 69 (.bin .add (.t 68) (.c (.d (.int .i64 1)))),
 Qm 13 69] [1,2,4,5,8,10,12,13])))
def N7:C:=(.seq (.seq (.reg [Qm 94 14,
 Qo 95 (.fld (.t 8) 2),
 Qo 96 (.ldl (.t 95) none),
 Qo 97 (.len (.t 96)),
 Qo 98 (.bin .lss (.t 94) (.t 97))] [1,2,5,8,10,12,14,98])
 (.cond (.t 98) .skip
 (.exit 3)))
 (.seq (.block 4 (.seq (.reg [Qo 15 (.al [(.d (.int .i64 0)),(.d (.int .i64 0)),.AY] false),
 Qo 102 (.ldl (.t 5) (some 2)),
 Qm 103 1,
 Qm 104 2,
 Qo 105 (.fld (.t 8) 2),
 Qo 106 (.ldl (.t 105) none),
 Qm 107 14,
 Qo 108 (.ix (.t 106) (.t 107) 3),
 Qo 109 (.ld (.t 108) (some 3)),
 Qo 110 (.call 60 [(.t 102),(.t 103),(.t 104),(.t 109),(.c (.d (.bool false)))]),
 Qm 101 110,
 Qo 111 (.ext (.t 101) 0),
 Qo 112 (.ext (.t 101) 1),
 ⟨none,.st (.t 15) (.t 111) 3,none⟩,
 Qm 16 112] [1,2,5,8,10,12,14,15,16])
 (.seq (.seq (.reg [Qm 113 16,
 Qo 114 (.bin .neq (.t 113) (.c (.d (.int .i64 0))))] [1,2,5,8,10,12,14,15,16,114])
 (.cond (.t 114) (.seq (.reg [Qo 115 (.bld [(.d (.int .i64 0)),(.d (.int .i64 0)),.AY] []),
 Qm 116 16,
 ⟨none,.st (.t 10) (.t 115) 3,none⟩,
 Qm 11 116] [10,11])
 .ret)
 .skip))
 (.reg [Qo 117 (.fld (.t 12) 2),
 Qo 118 (.ldl (.t 117) none),
 Qo 119 (.ldl (.t 15) (some 3)),
 Qo 120 (.bsl 3 1 [(.d (.int .i64 0)),(.d (.int .i64 0)),.AY] [(0,3,(.t 119))]),
 Qo 121 (.app 57 3 40 (.t 118) (.t 120)),
 Qo 122 (.fld (.t 12) 2),
 ⟨none,.st (.t 122) (.t 121) 1,none⟩] [1,2,5,8,10,12,14]))))
 (.reg [Qm 99 14,
 Qo 100 (.bin .add (.t 99) (.c (.d (.int .i64 1)))),
 Qm 14 100] [1,2,5,8,10,12,14])))
def XR:C:=(.seq (.reg [Qo 5 (.box (.t 0) false),
 Qo 8 (.box (.t 3) false),
 Qo 10 (.al [(.d (.int .i64 0)),(.d (.int .i64 0)),.AY] false),
 Qo 11 (.mv (.c (.d (.int .i64 0))))] [1,2,4,5,8,10])
 (.seq (.reg [Qo 17 (.fld (.t 8) 0),
 Qo 18 (.ldl (.t 17) none),
 Qo 19 (.bld [(.d (.int .i64 0)),(.d (.int .i64 0)),.AY] [(0,1,(.t 18))]),
 Qo 12 (.al [(.d (.int .i64 0)),(.d (.int .i64 0)),.AY] false),
 ⟨none,.st (.t 12) (.t 19) 3,none⟩] [1,2,4,5,8,10,12])
 (.seq (.seq (.reg [Qo 20 (.fld (.t 8) 0),
 Qo 21 (.ldl (.t 20) none)] [1,2,4,5,8,10,12,21])
 (.block 0 (.seq (.reg [Qo 23 (.bin .eql (.t 21) (.c (.d (.int .i64 4)))),
 Qm 22 23] [1,2,4,5,8,10,12,21,22])
 (.cond (.t 22) (.seq (.reg [Qm 24 2,
 Qo 25 (.fld (.t 8) 1),
 Qo 26 (.ldl (.t 25) none),
 Qo 27 (.call 59 [(.t 24),(.t 26)]),
 Qo 28 (.fld (.t 12) 1),
 ⟨none,.st (.t 28) (.t 27) 1,none⟩] [1,2,5,8,10,12])
 (.seq (.reg [Qo 29 (.fld (.t 12) 1),
 Qo 30 (.ldl (.t 29) none),
 Qo 31 (.bin .lss (.t 30) (.c (.d (.int .i64 0))))] [1,2,5,8,10,12,31])
 (.cond (.t 31) (.seq (.reg [Qo 32 (.bld [(.d (.int .i64 0)),(.d (.int .i64 0)),.AY] []),
 ⟨none,.st (.t 10) (.t 32) 3,none⟩,
 Qo 11 (.mv (.c (.d (.int .i64 3))))] [10,11])
 .ret)
 .skip)))
 (.seq (.reg [Qo 34 (.bin .eql (.t 21) (.c (.d (.int .i64 5)))),
 Qm 33 34] [1,2,4,5,8,10,12,33])
 (.cond (.t 33) (.seq (.reg [Qm 35 1,
 Qo 36 (.fld (.t 8) 1),
 Qo 37 (.ldl (.t 36) none),
 Qo 38 (.call 59 [(.t 35),(.t 37)]),
 Qo 39 (.fld (.t 12) 1),
 ⟨none,.st (.t 39) (.t 38) 1,none⟩] [1,2,4,5,8,10,12])
 (.seq (.seq (.reg [Qo 40 (.fld (.t 12) 1),
 Qo 41 (.ldl (.t 40) none),
 Qo 42 (.bin .lss (.t 41) (.c (.d (.int .i64 0))))] [1,2,4,5,8,10,12,42])
 (.cond (.t 42) (.seq (.reg [Qo 43 (.bld [(.d (.int .i64 0)),(.d (.int .i64 0)),.AY] []),
 ⟨none,.st (.t 10) (.t 43) 3,none⟩,
 Qo 11 (.mv (.c (.d (.int .i64 3))))] [10,11])
 .ret)
 .skip))
 (.seq (.seq (.reg [Qo 44 (.fld (.t 8) 2),
 Qo 45 (.ldl (.t 44) none),
 Qo 46 (.len (.t 45)),
 Qo 47 (.fld (.t 5) 0),
 Qo 48 (.ldl (.t 47) none),
 Qo 49 (.fld (.t 12) 1),
 Qo 50 (.ldl (.t 49) none),
 Qo 51 (.ix (.t 48) (.t 50) 3),
 Qo 52 (.fld (.t 51) 1),
 Qo 53 (.ld (.t 52) none),
 Qo 54 (.len (.t 53)),
 Qo 55 (.bin .neq (.t 46) (.t 54))] [1,2,4,5,8,10,12,55])
 (.cond (.t 55) (.seq (.reg [Qo 56 (.bld [(.d (.int .i64 0)),(.d (.int .i64 0)),.AY] []),
 ⟨none,.st (.t 10) (.t 56) 3,none⟩,
 Qo 11 (.mv (.c (.d (.int .i64 5))))] [10,11])
 .ret)
 .skip))
 (.seq (.reg [Qo 57 (.fld (.t 12) 1),
 Qo 58 (.ldl (.t 57) none),
 Qm 59 1,
 Qo 60 (.len (.t 59)),
 Qo 61 (.bin .sub (.t 60) (.c (.d (.int .i64 1)))),
 Qo 62 (.bin .eql (.t 58) (.t 61))] [1,2,4,5,8,10,12,62])
 (.cond (.t 62) (.seq (.seq (.reg [Qo 13 (.mv (.c (.d (.int .i64 0))))] [1,2,4,5,8,10,12,13])
 (.block 1 (.loop TX)))
 (.seq (.reg [Qm 91 4,
 Qo 92 (.un .not (.t 91))] [1,2,5,8,10,12,92])
 (.cond (.t 92) (.seq (.reg [Qo 93 (.bld [(.d (.int .i64 0)),(.d (.int .i64 0)),.AY] []),
 ⟨none,.st (.t 10) (.t 93) 3,none⟩,
 Qo 11 (.mv (.c (.d (.int .i64 7))))] [10,11])
 .ret)
 .skip)))
 .skip)))))
 .skip))))))
 (.seq (.seq (.reg [Qo 14 (.mv (.c (.d (.int .i64 0))))] [1,2,5,8,10,12,14])
 (.block 3 (.loop N7)))
 (.seq (.reg [Qo 123 (.ldl (.t 12) (some 3)),
 ⟨none,.st (.t 10) (.t 123) 3,none⟩,
 Qo 11 (.mv (.c (.d (.int .i64 0))))] [10,11])
 .ret)))))
def Xq:List (List Nat×PT):=[([1,2,4,5,8,10],.done),([1,2,4,5,8,10,12],.done),([1,2,4,5,8,10,12,21],.done),([1,2,4,5,8,10,12,21,22],.done),([1,2,5,8,10,12],.done),([1,2,5,8,10,12,31],.done),([10,11],.done),([1,2,4,5,8,10,12,33],.done),([1,2,4,5,8,10,12],.done),([1,2,4,5,8,10,12,42],.done),([10,11],.done),([1,2,4,5,8,10,12,55],.done),([10,11],.done),([1,2,4,5,8,10,12,62],.done),([1,2,4,5,8,10,12,13],.done),([1,2,4,5,8,10,12,13,67],.done),([1,2,4,5,8,10,12,13,89],.done),([10,11],.done),([1,2,4,5,8,10,12,13],.done),([1,2,5,8,10,12,92],.done),([10,11],.done),([1,2,5,8,10,12,14],.done),([1,2,5,8,10,12,14,98],.done),([1,2,5,8,10,12,14,15,16],(.lay 12 (.one 0 (.one 1 (.one 2 (.one 3 (.one 4 (.one 5 (.one 6 (.one 7 (.one 8 (.one 9 (.one 10 (.one 11 (.one 13 (.one 14 .done)))))))))))))))),([1,2,5,8,10,12,14,15,16,114],.done),([10,11],.done),([1,2,5,8,10,12,14],.done),([1,2,5,8,10,12,14],.done),([10,11],.done)]
noncomputable def Ge:Cx:=⟨Tryz.prog,60,Tryz.f60,124,[300018,300021,300026,300030,300037,300041,300045,300048,300050,300058,300065,300071,300079,300096,300102,300106,300118,300119,300123],[],[.c 10 (some 3),.t 11]⟩
theorem EI:Good Ge:=⟨Tryz.func60,by kernel_rfl⟩
theorem WX:Ge.rs=[.c 10 (some 3),.t 11]:=rfl
theorem X0 (hl:args.length≤124) (h:Run Ge K [.code XR] (BP args) E σ):AM Tryz.prog 60 args σ K:=
 AW (cx:=Ge) (code:=Tryz.f60.body.getD .skip) EI (by kernel_rfl) Tryz.ntmps60 hl (AX Ge _ Xq _ [] (by kernel_rfl)) h
def P0:C:=(.seq (.seq (.reg [Qm 15 8,
 Qm 16 0,
 Qm 17 7,
 Qo 18 (.ix (.t 16) (.t 17) 3),
 Qo 19 (.fld (.t 18) 2),
 Qo 20 (.ld (.t 19) none),
 Qo 21 (.len (.t 20)),
 Qo 22 (.bin .lss (.t 15) (.t 21))] [0,1,7,8,22])
 (.cond (.t 22) .skip
 (.exit 2)))
 (.seq (.block 3 (.seq (.reg [Qm 25 0,
 Qm 26 7,
 Qo 27 (.ix (.t 25) (.t 26) 3),
 Qo 28 (.fld (.t 27) 2),
 Qo 29 (.ld (.t 28) none),
 Qm 30 8,
 Qo 31 (.ix (.t 29) (.t 30) 2),
 Qo 32 (.fld (.t 31) 0),
 Qo 33 (.ld (.t 32) none),
 Qm 34 1,
 Qo 35 (.bin .eql (.t 33) (.t 34))] [0,1,7,8,35])
 (.cond (.t 35) (.seq (.reg [Qm 36 7,
 Qm 37 8,
 Qm 4 36,
 Qm 5 37,
 Qo 6 (.mv (.c (.d (.bool true))))] [4,5,6])
 .ret)
 .skip)))
 (.reg [Qm 23 8,
 Qo 24 (.bin .add (.t 23) (.c (.d (.int .i64 1)))),
 Qm 8 24] [0,1,7,8])))
def P1:C:=(.seq (.seq (.reg [Qm 9 7,
 Qm 10 0,
 Qo 11 (.len (.t 10)),
 Qo 12 (.bin .lss (.t 9) (.t 11))] [0,1,7,12])
 (.cond (.t 12) .skip
 (.exit 0)))
 (.seq (.block 1 (.seq (.reg [Qo 8 (.mv (.c (.d (.int .i64 0))))] [0,1,7,8])
 (.block 2 (.loop P0))))
 (.reg [Qm 13 7,
 Qo 14 (.bin .add (.t 13) (.c (.d (.int .i64 1)))),
 Qm 7 14] [0,1,7])))
def MG:C:=(.seq (.reg [Qo 4 (.mv (.c (.d (.int .i64 0)))),
 Qo 5 (.mv (.c (.d (.int .i64 0)))),
 Qo 6 (.mv (.c (.d (.bool false))))] [0,1])
 (.seq (.seq (.reg [Qo 7 (.mv (.c (.d (.int .i64 0))))] [0,1,7])
 (.block 0 (.loop P1)))
 (.seq (.reg [Qo 4 (.mv (.c (.d (.int .i64 0)))),
 Qo 5 (.mv (.c (.d (.int .i64 0)))),
 Qo 6 (.mv (.c (.d (.bool false))))] [4,5,6])
 .ret)))
noncomputable def FL:Cx:=⟨Tryz.prog,67,Tryz.f67,38,[],[],[.t 4,.t 5,.t 6]⟩
theorem Ie:Good FL:=⟨Tryz.func67,by kernel_rfl⟩
theorem Ri:FL.rs=[.t 4,.t 5,.t 6]:=rfl
theorem SM (hl:args.length≤38) (h:Run FL K [.code MG] (BP args) E σ):AM Tryz.prog 67 args σ K:=
 AW (cx:=FL) (code:=Tryz.f67.body.getD .skip) Ie (by kernel_rfl) Tryz.ntmps67 hl (AX FL _ (B2 MG) _ [] (by kernel_rfl)) h
def Ji:C:=(.seq (.seq (.reg [Qm 70 12,
 Qm 71 5,
 Qo 72 (.len (.t 71)),
 Qo 73 (.bin .lss (.t 70) (.t 72))] [0,1,5,6,7,8,9,10,12,73])
 (.cond (.t 73) .skip
 (.exit 2)))
 (.seq (.block 3 (.reg [Qm 76 7,
 Qm 77 76,
 ⟨some 78,.mv (.t 9),some (77,true)⟩,
 ⟨some 79,.mv (.t 6),some (77,true)⟩,
 ⟨some 80,.bin .eql (.t 78) (.t 79),some (77,true)⟩,
 ⟨some 81,.mv (.t 80),some (77,true)⟩,
 ⟨some 82,.mv (.t 5),some (81,true)⟩,
 ⟨some 83,.mv (.t 12),some (81,true)⟩,
 ⟨some 84,.ix (.t 82) (.t 83) 1,some (81,true)⟩,
 ⟨some 85,.ld (.t 84) none,some (81,true)⟩,
 ⟨some 86,.mv (.t 10),some (81,true)⟩,
 ⟨some 87,.bin .eql (.t 85) (.t 86),some (81,true)⟩,
 ⟨some 88,.pick (.t 81) (.t 87) (.c (.d (.bool false))),some (77,true)⟩,
 ⟨some 89,.un .not (.t 88),some (77,true)⟩,
 Qo 90 (.pick (.t 77) (.t 89) (.c (.d (.bool false)))),
 Qm 7 90] [0,1,5,6,7,8,9,10,12]))
 (.reg [Qm 74 12,
 Qo 75 (.bin .add (.t 74) (.c (.d (.int .i64 1)))),
 Qm 12 75] [0,1,5,6,7,8,9,10,12])))
def P2:C:=(.seq (.seq (.reg [Qm 13 8,
 Qm 14 1,
 Qo 15 (.len (.t 14)),
 Qo 16 (.bin .lss (.t 13) (.t 15))] [0,1,5,6,7,8,16])
 (.cond (.t 16) .skip
 (.exit 0)))
 (.seq (.block 1 (.seq (.reg [Qm 20 0,
 Qo 21 (.nck (.t 20)),
 Qo 22 (.fld (.t 21) 2),
 Qo 23 (.ld (.t 22) none),
 Qm 24 1,
 Qm 25 8,
 Qo 26 (.ix (.t 24) (.t 25) 8),
 Qo 27 (.fld (.t 26) 0),
 Qo 28 (.ld (.t 27) none),
 Qo 29 (.call 67 [(.t 23),(.t 28)]),
 Qm 19 29,
 Qo 30 (.ext (.t 19) 0),
 Qo 31 (.ext (.t 19) 1),
 Qo 32 (.ext (.t 19) 2),
 Qm 9 30,
 Qm 10 31,
 Qm 11 32] [0,1,5,6,7,8,9,10,11])
 (.seq (.seq (.reg [Qm 33 11,
 Qo 34 (.un .not (.t 33))] [0,1,5,6,7,8,9,10,34])
 (.cond (.t 34) (.seq (.reg [Qo 4 (.mv (.c (.d (.int .i64 3))))] [4])
 .ret)
 .skip))
 (.seq (.seq (.reg [Qm 35 1,
 Qm 36 8,
 Qo 37 (.ix (.t 35) (.t 36) 8),
 Qo 38 (.fld (.t 37) 1),
 Qo 39 (.ld (.t 38) none),
 Qo 40 (.len (.t 39)),
 Qm 41 0,
 Qo 42 (.nck (.t 41)),
 Qo 43 (.fld (.t 42) 2),
 Qo 44 (.ld (.t 43) none),
 Qm 45 9,
 Qo 46 (.ix (.t 44) (.t 45) 3),
 Qo 47 (.fld (.t 46) 2),
 Qo 48 (.ld (.t 47) none),
 Qm 49 10,
 Qo 50 (.ix (.t 48) (.t 49) 2),
 Qo 51 (.fld (.t 50) 1),
 Qo 52 (.ld (.t 51) none),
 Qo 53 (.len (.t 52)),
 Qo 54 (.bin .neq (.t 40) (.t 53))] [0,1,5,6,7,8,9,10,54])
 (.cond (.t 54) (.seq (.reg [Qo 4 (.mv (.c (.d (.int .i64 5))))] [4])
 .ret)
 .skip))
 (.seq (.seq (.reg [Qm 55 1,
 Qm 56 8,
 Qo 57 (.ix (.t 55) (.t 56) 8),
 Qo 58 (.fld (.t 57) 1),
 Qo 59 (.ld (.t 58) none),
 Qo 60 (.call 38 [(.t 59)])] [0,1,5,6,7,8,9,10,60])
 (.cond (.t 60) (.seq (.reg [Qo 4 (.mv (.c (.d (.int .i64 4))))] [4])
 .ret)
 .skip))
 (.seq (.seq (.reg [Qm 61 6,
 Qo 62 (.bin .lss (.t 61) (.c (.d (.int .i64 0))))] [0,1,5,6,7,8,9,10,62])
 (.cond (.t 62) (.reg [Qm 63 9,
 Qm 6 63] [0,1,5,6,7,8,9,10])
 .skip))
 (.seq (.reg [Qm 64 7,
 Qm 65 64,
 ⟨some 66,.mv (.t 9),some (65,true)⟩,
 ⟨some 67,.mv (.t 6),some (65,true)⟩,
 ⟨some 68,.bin .eql (.t 66) (.t 67),some (65,true)⟩,
 Qo 69 (.pick (.t 65) (.t 68) (.c (.d (.bool false)))),
 Qm 7 69] [0,1,5,6,7,8,9,10])
 (.seq (.seq (.reg [Qo 12 (.mv (.c (.d (.int .i64 0))))] [0,1,5,6,7,8,9,10,12])
 (.block 2 (.loop Ji)))
 (.reg [Qm 91 5,
 Qm 92 10,
 Qo 93 (.bsl 1 1 [(.d (.int .i64 0))] [(0,1,(.t 92))]),
 Qo 94 (.app 3 1 8 (.t 91) (.t 93)),
 Qm 5 94] [0,1,5,6,7,8])))))))))
 (.reg [Qm 17 8,
 Qo 18 (.bin .add (.t 17) (.c (.d (.int .i64 1)))),
 Qm 8 18] [0,1,5,6,7,8])))
def MH:C:=(.seq (.reg [Qo 4 (.mv (.c (.d (.int .i64 0))))] [0,1])
 (.seq (.reg [Qo 5 (.mv (.c .AY))] [0,1,5])
 (.seq (.reg [Qo 6 (.mv (.c (.d (.int .i64 (-1)))))] [0,1,5,6])
 (.seq (.reg [Qo 7 (.mv (.c (.d (.bool true))))] [0,1,5,6,7])
 (.seq (.seq (.reg [Qo 8 (.mv (.c (.d (.int .i64 0))))] [0,1,5,6,7,8])
 (.block 0 (.loop P2)))
 (.seq (.seq (.reg [Qm 95 7,
 Qo 96 (.un .not (.t 95)),
 Qm 97 96,
 ⟨some 98,.mv (.t 1),some (97,false)⟩,
 ⟨some 99,.len (.t 98),some (97,false)⟩,
 ⟨some 100,.mv (.t 0),some (97,false)⟩,
 ⟨some 101,.nck (.t 100),some (97,false)⟩,
 ⟨some 102,.fld (.t 101) 2,some (97,false)⟩,
 ⟨some 103,.ld (.t 102) none,some (97,false)⟩,
 ⟨some 104,.mv (.t 6),some (97,false)⟩,
 ⟨some 105,.ix (.t 103) (.t 104) 3,some (97,false)⟩,
 ⟨some 106,.fld (.t 105) 2,some (97,false)⟩,
 ⟨some 107,.ld (.t 106) none,some (97,false)⟩,
 ⟨some 108,.len (.t 107),some (97,false)⟩,
 ⟨some 109,.bin .neq (.t 99) (.t 108),some (97,false)⟩,
 Qo 110 (.pick (.t 97) (.c (.d (.bool true))) (.t 109))] [110])
 (.cond (.t 110) (.seq (.reg [Qo 4 (.mv (.c (.d (.int .i64 7))))] [4])
 .ret)
 .skip))
 (.seq (.reg [Qo 4 (.mv (.c (.d (.int .i64 0))))] [4])
 .ret)))))))
noncomputable def D8:Cx:=⟨Tryz.prog,68,Tryz.f68,111,[],[],[.t 4]⟩
theorem D3:Good D8:=⟨Tryz.func68,by kernel_rfl⟩
theorem Rj:D8.rs=[.t 4]:=rfl
theorem SN (hl:args.length≤111) (h:Run D8 K [.code MH] (BP args) E σ):AM Tryz.prog 68 args σ K:=
 AW (cx:=D8) (code:=Tryz.f68.body.getD .skip) D3 (by kernel_rfl) Tryz.ntmps68 hl (AX D8 _ (B2 MH) _ [] (by kernel_rfl)) h
attribute [go_sem] P7 Yp Xn VN Yq aV Qk Sd Ns Yr aW WX Ri Rj
end Go.Ab
