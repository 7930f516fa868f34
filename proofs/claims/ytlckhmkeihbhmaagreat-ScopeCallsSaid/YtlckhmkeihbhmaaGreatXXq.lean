/- Components: the whole function. Scope: the groups. Components of the reference: the whole function. Components of the reference: the whole function. Reference scope: the look at a body. Conditions: none. -/
import Derived.Test.YtlckhmkeihbhmaaGreatXWh
set_option linter.unusedSimpArgs false
set_option linter.unusedVariables false
set_option maxRecDepth 4000
set_option maxHeartbeats 8000000
open List renaming replicate→AG,replicate_succ→Eu,flatten_cons→En,length_map→AA,length_filter_le→ER,mem_range→F9,mem_map→Dw,map_cons→AI,map_nil→AO,range→Ae,length_range→GG,mem_of_getElem?→AT,length_set→LB,take_of_length_le→AH,mem_singleton→B5,getElem?_eq_some_iff→AR,map_append→Er,flatMap_cons→MB,length_append→AS,length_cons→A5,cons_append→Ad,append_assoc→Ag,take_append_drop→A4,length_take→Aj,mem_cons_of_mem→B8,mem_append_left→OF,mem_cons_self→BT,append_nil→Aq,take→DN,drop→Cs
open Nat renaming le_trans→BR,mul_one→Ai,le_refl→A0,lt_or_ge→Br,min_eq_left→CO,zero_add→Ak,add_assoc→OA
open Int renaming reduceBEq→AU,reduceToNat→D0
open Option renaming isSome_some→Bp,isSome_none→CD
open Bool renaming not_false→C2,and_true→Am,false_and→B1
namespace Go.Ab
open Go.Proofs
theorem Y6 (n:Nat):(AG n [AV.AY]).flatten=AG n AV.AY:=by
 induction n with
 |zero=>rfl
 |succ n ih=>rw [Eu,En,ih];rfl
theorem Pf (g:List (List Nat)) (hg:N2 g) (hgl:g.length≤1000) (hll:∀l∈g,l.length≤1000) (σ:AF):
 AM Tryz.prog 35 [.d (.sl (g.map Eb))] σ (fun v σ'=>v= .d (.sl ((Nc g).map Eb))∧σ'=σ):=by
 refine Q9 (by simp) ?_
 rw [Bg]
 generalize hQ:(fun (v:AV) (σ':AF)=>v= .d (.sl ((Nc g).map Eb))∧σ'=σ)=Q
 have hok:Q (.d (.sl ((Nc g).map Eb))) σ:=by rw [← hQ];exact ⟨rfl,rfl⟩
 clear hQ
 have hbt:∀(τ:AF) (j:Nat) (x:Nat×TypeId) (q:Nat),(τ.DK j x).blk q=τ.blk q:=fun _ _ _ _=>rfl
 (repeat' (first|refine Run.ct rfl ?_|((first|refine Run.reg mixed ?_|refine Run.AD ?_)<;>try simp -implicitDefEqProofs only [go_sem])|fail))
 intro j1 hj1
 have hle1:=Bj (cs:=[AV.d (.sl (g.map Eb))]) hj1
 have hb1:(σ.AP j1 [AV.d (.sl (g.map Eb))]).blk j1=some [AV.d (.sl (g.map Eb))]:=by rw [AL,if_pos rfl]
 generalize σ.AP j1 [AV.d (.sl (g.map Eb))]=τ1 at hle1 hb1 ⊢
 (repeat' (first|refine Run.ct rfl ?_|((first|refine Run.reg mixed ?_|refine Run.AD ?_)<;>try simp -implicitDefEqProofs only [hb1,AA,go_sem])|fail))
 rintro j3 ⟨hj3,hjb3⟩
 have hj30:=hle1.none hj3
 have n13:j1≠j3:=fun e=>by rw [← e,hb1] at hj3;cases hj3
 have hle3:σ.le (((τ1.AP j3 [AV.d (.int .i64 0)]).DK j3 (1,3)).AP j3 [.d (.int .i64 g.length)]):=C1 (Rd (C1 hle1 hj30) hjb3) hj30
 have hb13:(((τ1.AP j3 [AV.d (.int .i64 0)]).DK j3 (1,3)).AP j3 [.d (.int .i64 g.length)]).blk j1=some [AV.d (.sl (g.map Eb))]:=by rw [AL,if_neg n13,hbt,AL,if_neg n13];exact hb1
 have hb3:(((τ1.AP j3 [AV.d (.int .i64 0)]).DK j3 (1,3)).AP j3 [.d (.int .i64 g.length)]).blk j3=some [.d (.int .i64 g.length)]:=by rw [AL,if_pos rfl]
 simp -implicitDefEqProofs only [hbt,AL,go_sem]
 generalize ((τ1.AP j3 [AV.d (.int .i64 0)]).DK j3 (1,3)).AP j3 [AV.d (.int .i64 g.length)]=τ3 at hle3 hb13 hb3 ⊢
 clear hb1 hle1
 (repeat' (first|refine Run.ct rfl ?_|((first|refine Run.reg mixed ?_|refine Run.AD ?_|(refine Qx.mk (n:=g.length) (by omega) (by omega) (fun jr hjr=>?_)))<;>try simp -implicitDefEqProofs only [hb3,AA,go_sem])|fail))
 rw [Y6]
 have hjr0:=hle3.none hjr
 have nr1:jr≠j1:=fun e=>by rw [e,hb13] at hjr;cases hjr
 have nr3:jr≠j3:=fun e=>by rw [e,hb3] at hjr;cases hjr
 rintro j4 ⟨hj4,hjb4⟩
 replace hj4:(τ3.AP jr (AG g.length AV.AY)).blk j4=none:=by rw [AL];exact hj4
 have hle4:=C1 (cs:=AG g.length AV.AY) hle3 hjr0
 have hb14:=Cz hb13 hjr (AG g.length AV.AY)
 have hb34:=Cz hb3 hjr (AG g.length AV.AY)
 have hbr:(τ3.AP jr (AG g.length AV.AY)).blk jr=some (AG g.length AV.AY):=by rw [AL,if_pos rfl]
 generalize τ3.AP jr (AG g.length AV.AY)=τ4 at hle4 hb14 hb34 hbr hj4 hjb4 ⊢
 clear hb13 hb3 hle3 hjr
 have hj40:=hle4.none hj4
 have n14:j1≠j4:=fun e=>by rw [← e,hb14] at hj4;cases hj4
 have n34:j3≠j4:=fun e=>by rw [← e,hb34] at hj4;cases hj4
 have nr4:jr≠j4:=fun e=>by rw [← e,hbr] at hj4;cases hj4
 have hrs:RS σ g j1 j3 j4 jr 0 0 (AG g.length AV.AY) (((τ4.AP j4 [AV.AY]).DK j4 (1,141)).AP j4 [AV.ms jr g.length 1 78]):=
  ⟨by rw [AL,if_neg n14,hbt,AL,if_neg n14];exact hb14,by rw [AL,if_neg n34,hbt,AL,if_neg n34];exact hb34,by rw [AL,if_pos rfl],by rw [AL,if_neg nr4,hbt,AL,if_neg nr4];exact hbr,by simp,fun k hk=>by omega,fun k _ hk=>by simp [hk],C1 (Rd (C1 hle4 hj40) hjb4) hj40,hjr0,nr1,nr3,nr4⟩
 simp -implicitDefEqProofs only [hbt,AL,go_sem]
 generalize ((τ4.AP j4 [AV.AY]).DK j4 (1,141)).AP j4 [AV.ms jr g.length 1 78]=τ5 at hrs ⊢
 clear hle4 hb14 hb34 hbr hj4 hjb4
 (repeat' (first|refine Run.ct rfl ?_|((first|refine Run.reg mixed ?_|refine Run.AD ?_)<;>try simp -implicitDefEqProofs only [hrs.b4,hrs.b3,hrs.b1,go_sem])|fail))
 refine kE Q _ g hg hgl hll j1 j3 j4 jr σ τ5 _ hrs (fun cells τ6 hrs=>?_)
 (repeat' (first|refine Run.ct rfl ?_|((first|refine Run.reg mixed ?_|refine Run.AD ?_|(refine Qx.mk (n:=g.length) (by omega) (by omega) (fun jl hjl=>?_)))<;>try simp -implicitDefEqProofs only [hrs.b3,go_sem])|fail))
 rw [KM]
 obtain ⟨f1,f2,f3,f4,f5,f6⟩:=hrs.fresh hjl
 have hrs2:=hrs.new f1 f2 f3 f4 f5 f6 (BK (AG g.length false))
 rintro j7 ⟨hj7,hjb7⟩
 replace hj7:(τ6.AP jl (BK (AG g.length false))).blk j7=none:=by rw [AL];exact hj7
 have hbl:(τ6.AP jl (BK (AG g.length false))).blk jl=some (BK (AG g.length false)):=by rw [AL,if_pos rfl]
 generalize τ6.AP jl (BK (AG g.length false))=τ7 at hrs2 hbl hj7 hjb7 ⊢
 obtain ⟨e1,e2,e3,e4,e5,e6⟩:=hrs2.fresh hj7
 have nl7:jl≠j7:=fun e=>by rw [← e,hbl] at hj7;cases hj7
 have hrs3:=((hrs2.new e1 e2 e3 e4 e5 e6 [.AY]).bt (x:=(1,78)) hjb7).new e1 e2 e3 e4 e5 e6 [AV.ms jl g.length 1 4]
 have hls:LS σ g j1 j3 j4 jr j7 jl cells (AG g.length false) (((τ7.AP j7 [AV.AY]).DK j7 (1,78)).AP j7 [AV.ms jl g.length 1 4]):=
  ⟨hrs3,by rw [AL,if_pos rfl],by rw [AL,if_neg nl7,hbt,AL,if_neg nl7];exact hbl,by simp,f1,f2,f3,f4,f5,nl7,f6⟩
 simp -implicitDefEqProofs only [hbt,AL,go_sem]
 generalize ((τ7.AP j7 [AV.AY]).DK j7 (1,78)).AP j7 [AV.ms jl g.length 1 4]=τ8 at hls ⊢
 clear hrs hrs2 hrs3 hbl hjl hj7 hjb7
 (repeat' (first|refine Run.ct rfl ?_|((first|refine Run.reg mixed ?_|refine Run.AD ?_)<;>try simp -implicitDefEqProofs only [go_sem])|fail))
 refine kG Q _ g hgl j1 j3 j4 jr j7 jl σ τ8 cells hls (fun outv τ9 hle ho=>?_)
 (repeat' (first|refine Run.ct rfl ?_|((first|refine Run.reg mixed ?_|refine Run.AD ?_|(refine Run.A1 Kf (σ2:=σ) hle ?_))<;>try simp -implicitDefEqProofs only [ho.Ar,go_sem])|fail))
 simp -implicitDefEqProofs only [ho.BZ,ho.plain,go_sem]
 exact hok
theorem YC {fs:List FE} {f:FE}:(JH fs f).length≤fs.length∧∀w∈JH fs f,w < fs.length:=by
 refine ⟨by rw [JH];exact BR (ER _ _) (by simp),fun w hw=>?_⟩
 rw [JH,List.mem_filter,F9] at hw
 exact hw.1
theorem Sv (p:Pg):N2 (Ey p):=by
 intro l hl w hw
 unfold Ey at hl ⊢
 split at hl
 · rename_i h
   rw [if_pos h,AA]
   obtain ⟨f,_,rfl⟩:=Dw.1 hl
   exact YC.2 w hw
 · cases hl
theorem LW (l:List (List Nat)):I5 l= .d (.sl (l.map Eb)):=rfl
end Go.Ab
namespace Go.Ab
open Go.Proofs
theorem Sw (p:Pg):(Ey p).length≤24:=by
 by_cases hc0:(My p).1=0
 · have:=(Q4 hc0).1
   unfold Ey
   rw [if_pos hc0,AA];exact this
 · unfold Ey;rw [if_neg hc0];simp
theorem RW (p:Pg):∀l∈Ey p,l.length≤24:=by
 intro l hl
 by_cases hc0:(My p).1=0
 · have:=(Q4 hc0).1
   unfold Ey at hl
   rw [if_pos hc0] at hl
   obtain ⟨f,_,rfl⟩:=Dw.1 hl
   exact BR YC.1 this
 · unfold Ey at hl;rw [if_neg hc0] at hl;cases hl
noncomputable def KB (p:Pg):List (List Nat):=Nc (Ey p)
theorem Tp (p:Pg) (σ:AF) (h:∀d∈p.data,Gd d):AM Tryz.prog 12 [pgA p] σ (fun v σ'=>v=I5 (KB p)∧σ'=σ):=by
 have hcl:=fun σ=>Ot p σ h
 have hco:=fun σ=>Pf (Ey p) (Sv p) (BR (Sw p) (by decide)) (fun l hl=>BR (RW p l hl) (by decide)) σ
 refine Ul (by simp) ?_
 rw [Bg]
 rw [KB,LW]
 simp only [LW] at hcl
 obtain ⟨ds,fs⟩:=p
 simp only [pgA,Pg.enc,AI,AO] at hcl ⊢
 (repeat' (first|refine Run.ct rfl ?_|((first|refine Run.reg mixed ?_|refine Run.AD ?_|refine Run.Fu O1 (AF.le_refl _) ?_|refine AJ.det (hcl _) ?_|refine AJ.det (hco _) ?_)<;>try simp -implicitDefEqProofs only [go_sem])|fail))
end Go.Ab
namespace Go.Ab
open Go.Proofs
theorem nW (Q:AV→AF→Prop) (rest:List CI) (g:List (List Nat)) (hgl:g.length≤1000) (jr jl:Nat) (σ τ:AF) (cells:List AV) (ls:List Bool) (h:LT σ g jr jl cells ls τ) (i:Nat) (hi:i < g.length) (outv:AV) (orows:List (List DV)) (tk:Nat)
 (ho:F1 σ [⟨3,1,(Gb g i).map DI,.own tk 3 1 ((Gb g i).map DI)⟩,⟨35,1,orows,outv⟩] τ)
 (hfin:∀τ',LT σ g jr jl cells (NP g i ls) τ'→F1 σ [⟨3,1,(Gb g i).map DI,.own tk 3 1 ((Gb g i).map DI)⟩,⟨35,1,orows,outv⟩] τ'→Run BJ Q rest (put 3 (.d (.int .i64 g.length)) (put 4 (.ms jr g.length 1 78) (put 10 (.ms jl g.length 1 4) (put 11 outv (put 13 (.d (.int .i64 i)) (put 14 (.own tk 3 1 ((Gb g i).map DI)) (put 145 (.own tk 3 1 ((Gb g i).map DI)) (put 146 (.d (.int .i64 (Gb g i).length)) (put 147 (.d (.int .i64 (Gb g i).length)) (put 148 (.d (.bool false)) U)))))))))) E τ'):
 Run BJ Q (.code (.loop K3)::.blk 12::rest) (put 3 (.d (.int .i64 g.length)) (put 4 (.ms jr g.length 1 78) (put 10 (.ms jl g.length 1 4) (put 11 outv (put 13 (.d (.int .i64 i)) (put 14 (.own tk 3 1 ((Gb g i).map DI)) (put 145 (.own tk 3 1 ((Gb g i).map DI)) (put 146 (.d (.int .i64 (Gb g i).length)) (put 147 (.d (.int .i64 0)) U))))))))) E τ:=by
 have hol:=fun k=>ho.tail.head.Ar k
 simp only at hol
 have hglen:(Gb g i).length≤1000:=by
  have:=ER (EP g i) (Ae g.length)
  rw [GG] at this
  rw [Gb];omega
 refine Run.BD ?_
 refine Run.BG ((fun (a3:AV) (a4:AV) (a10:AV) (a11:AV) (a13:AV) (a14:AV) (a145:AV) (a146:AV)=>fun (y:Nat×AF)=>put 3 a3 (put 4 a4 (put 10 a10 (put 11 a11 (put 13 a13 (put 14 a14 (put 145 a145 (put 146 a146 (put 147 (.d (.int .i64 y.1)) U))))))))) _ _ _ _ _ _ _ _) (fun _=>E) (fun y=>y.2)
  (fun y=>y.1≤(Gb g i).length∧LT σ g jr jl cells (Tq ls ((Gb g i).take y.1)) y.2∧F1 σ [⟨3,1,(Gb g i).map DI,.own tk 3 1 ((Gb g i).map DI)⟩,⟨35,1,orows,outv⟩] y.2) (fun y=>(Gb g i).length - y.1) ?_ (0,τ) ⟨by simp,h,ho⟩
 rintro ⟨q,τ⟩ ⟨hq,hL,hO⟩ ih
 simp only at hq hL hO
 by_cases hlt:q < (Gb g i).length
 · obtain ⟨v,hv⟩:=BC hlt
   have hev:=Ay (enc:=DI) hv
   rw [Kn] at hev
   have hvl:v < g.length:=by
    have:=AT hv
    rw [Gb,List.mem_filter,F9] at this
    exact this.1
   have hil:=ilT hvl
   have hw1:=A6 (show q+1≤9000000000000000000 by omega)
   have hvR:v < (Tq ls ((Gb g i).take q)).length:=by rw [hL.ll];exact hvl
   have w1:=MF true hvR
   have d1:=OJ hvR
   (repeat' (first|refine Run.ct rfl ?_|((first|refine Run.reg mixed ?_|refine Run.AD ?_)<;>try simp -implicitDefEqProofs only [A8 hlt,hev,hL.bl,hil,hw1,w1,d1,Ai,hol,go_sem])|fail))
   refine ih (q+1,_) ⟨by simp only;omega,?_,hO.set hL.nl _⟩ (by simp only;omega)
   simp only
   rw [Aw hv,fE]
   exact hL.set _ (by rw [LB];exact hL.ll)
 · have hqe:q=(Gb g i).length:=by omega
   subst hqe
   rw [AH (A0 _),jE h.ll] at hL
   have:=hfin τ hL hO
   (repeat' (first|refine Run.ct rfl ?_|((first|refine Run.reg mixed ?_|refine Run.AD ?_)<;>try simp -implicitDefEqProofs only [Bd hlt,hol,go_sem])|fail))
   exact this
end Go.Ab
namespace Go.Ab
open Go.Proofs
structure Rnd (σ:AF) (g:List (List Nat)) (jr jl:Nat) (cells:List AV) (ls:List Bool) (out:List (List Nat)) (i:Nat) (b:Bool) (ls':List Bool) (outv:AV) (τ:AF):Prop where
 il:i≤g.length
 lt:LT σ g jr jl cells ls' τ
 no:b=false→ls'=ls∧Cg σ 35 1 (out.map Eb) outv τ∧∀k,k < i→Lh g ls k=false
 yes:b=true→∃i0,i0 < g.length∧Lh g ls i0=true∧eT g ls=some i0∧ls'=NP g i0 ls∧Cg σ 35 1 ((out++[Gb g i0]).map Eb) outv τ
theorem nX (Q:AV→AF→Prop) (rest:List CI) (g:List (List Nat)) (hgl:g.length≤1000) (jr jl:Nat) (σ τ:AF) (cells:List AV) (ls:List Bool) (h:LT σ g jr jl cells ls τ) (hcl:Cls g ls) (out:List (List Nat)) (houl:out.length≤1000) (outv:AV) (ho:Cg σ 35 1 (out.map Eb) outv τ)
 (hfin:∀i b ls' outv τ',Rnd σ g jr jl cells ls out i b ls' outv τ'→(b=false→i=g.length)→(∀k,outv.Ar k=false)→Run BJ Q rest (put 3 (.d (.int .i64 g.length)) (put 4 (.ms jr g.length 1 78) (put 10 (.ms jl g.length 1 4) (put 11 outv (put 12 (.d (.bool b)) (put 13 (.d (.int .i64 i)) (put 91 (.d (.bool false)) U))))))) E τ'):
 Run BJ Q (.code (.loop K4)::.blk 8::rest) (put 3 (.d (.int .i64 g.length)) (put 4 (.ms jr g.length 1 78) (put 10 (.ms jl g.length 1 4) (put 11 outv (put 12 (.d (.bool false)) (put 13 (.d (.int .i64 0)) U)))))) E τ:=by
 refine Run.BD ?_
 refine Run.BG ((fun (a3:AV) (a4:AV) (a10:AV)=>fun (y:Nat×Bool×List Bool×AV×AF)=>put 3 a3 (put 4 a4 (put 10 a10 (put 11 (y.2.2.2.1) (put 12 (.d (.bool y.2.1)) (put 13 (.d (.int .i64 y.1)) U)))))) _ _ _) (fun _=>E) (fun y=>y.2.2.2.2)
  (fun y=>Rnd σ g jr jl cells ls out y.1 y.2.1 y.2.2.1 y.2.2.2.1 y.2.2.2.2) (fun y=>g.length - y.1) ?_ (0,false,ls,outv,τ) ⟨by simp,h,fun _=>⟨rfl,ho,fun k hk=>by omega⟩,fun hh=>by cases hh⟩
 clear h ho
 rintro ⟨i,b,ls',outv,τ⟩ hr ih
 simp only at hr ih
 cases b with
 |true=>
  obtain ⟨i0,hi0,hcan,hnx,hls,ho⟩:=hr.yes rfl
  have:=hfin i true ls' outv τ hr (fun hh=>by cases hh) (fun k=>ho.Ar k)
  by_cases hlt:i < g.length
  · (repeat' (first|refine Run.ct rfl ?_|((first|refine Run.reg mixed ?_|refine Run.AD ?_)<;>try simp -implicitDefEqProofs only [A8 hlt,ho.Ar,go_sem])|fail))
    exact this
  · (repeat' (first|refine Run.ct rfl ?_|((first|refine Run.reg mixed ?_|refine Run.AD ?_)<;>try simp -implicitDefEqProofs only [Bd hlt,ho.Ar,go_sem])|fail))
    exact this
 |false=>
 obtain ⟨rfl,ho,hno⟩:=hr.no rfl
 have hL:=hr.lt
 by_cases hlt:i < g.length
 · have hil:=ilT hlt
   have hw1:=A6 (show i+1≤9000000000000000000 by omega)
   obtain ⟨bb,hbb⟩:=BC (show i < ls'.length by rw [hL.ll];exact hlt)
   have eb:=DD hbb
   rw [← KF hbb] at eb
   have hskip:∀τ',LT σ g jr jl cells ls' τ'→Cg σ 35 1 (out.map Eb) outv τ'→Lh g ls' i=false→_:=fun τ' hL' ho' hc=>ih (i+1,false,ls',outv,τ') ⟨by simp only;omega,hL',fun _=>⟨rfl,ho',fun k hk=>by
    simp only at hk
    rcases Br k i with h|h
    · exact hno k h
    · have:k=i:=by omega
      subst this;exact hc⟩,fun hh=>by cases hh⟩ (by simp only;omega)
   simp only at hskip
   cases hb1:lsB ls' i with
   |true=>
    rw [hb1] at eb
    (repeat' (first|refine Run.ct rfl ?_|((first|refine Run.reg mixed ?_|refine Run.AD ?_)<;>try simp -implicitDefEqProofs only [A8 hlt,hL.bl,hil,eb,hw1,Ai,ho.Ar,go_sem])|fail))
    exact hskip τ hL ho (by simp [Lh,hb1])
   |false=>
   rw [hb1] at eb
   (repeat' (first|refine Run.ct rfl ?_|((first|refine Run.reg mixed ?_|refine Run.AD ?_)<;>try simp -implicitDefEqProofs only [A8 hlt,hL.bl,hil,eb,Ai,ho.Ar,go_sem])|fail))
   refine nV Q _ g hgl jr jl σ τ cells ls' hL i hlt outv (out.map Eb) ⟨fun x hx=>by simp only [B5] at hx;subst hx;exact ho,List.pairwise_singleton _ _⟩ (fun gv τ2 hL2 hO2=>?_)
   have hg2:=hO2.head
   have ho2:=hO2.tail.head
   simp only at hg2 ho2
   cases hrd:S9 g ls' i with
   |false=>
    (repeat' (first|refine Run.ct rfl ?_|((first|refine Run.reg mixed ?_|refine Run.AD ?_)<;>try simp -implicitDefEqProofs only [hw1,ho2.Ar,hg2.Ar,go_sem])|fail))
    exact hskip τ2 hL2 ho2 (by simp [Lh,hrd])
   |true=>
    have hcan:Lh g ls' i=true:=by simp [Lh,hb1,hrd]
    have hnx:eT g ls'=some i:=XV hlt hcan hno
    have hhd:=gZ hcl hlt hcan hno
    have heh:=Ay (enc:=DI) hhd
    rw [Kn] at heh
    have hgl0:0 < (Gb g i).length:=(AR.1 hhd).1
    rcases hg2.form with ⟨_,hnil⟩|⟨tk,rfl⟩
    · rw [List.map_eq_nil_iff] at hnil;rw [hnil] at hgl0;cases hgl0
    have hz:(0:Int).toNat=0:=rfl
    have hz2:((0:Int)≤0)=True:=by simp
    (repeat' (first|refine Run.ct rfl ?_|((first|refine Run.reg mixed ?_|refine Run.AD ?_)<;>try simp -implicitDefEqProofs only [hz,hz2,heh,ho2.Ar,AA,beq_self_eq_true,Ai,go_sem])|fail))
    refine nW Q _ g hgl jr jl σ τ2 cells ls' hL2 i hlt outv (out.map Eb) tk hO2 (fun τ3 hL3 hO3=>?_)
    have hg3:=hO3.head
    have ho3:=hO3.tail.head
    simp only at hg3 ho3
    (repeat' (first|refine Run.ct rfl ?_|((first|refine Run.reg mixed ?_|refine Run.AD ?_|(refine Dy.own ho3 rfl (by simp) (by simp;omega) (by decide) (fun v4 τ4 ho4 hbk4=>?_)))<;>try simp -implicitDefEqProofs only [ho3.Ar,hg3.cell,hg3.cells,hg3.dv,hg3.BZ,Ai,go_sem])|fail))
    (repeat' (first|refine Run.ct rfl ?_|((first|refine Run.reg mixed ?_|refine Run.AD ?_)<;>try simp -implicitDefEqProofs only [hw1,ho4.Ar,go_sem])|fail))
    rw [hw1]
    exact ih (i+1,true,NP g i ls',v4,τ4) ⟨by simp only;omega,hL3.tok hbk4 ho4.le,fun hh=>(by cases hh),fun _=>⟨i,hlt,hcan,hnx,rfl,by simp only [Er];exact ho4⟩⟩ (by simp only;omega)
 · have hie:i=g.length:=by have:=hr.il;omega
   subst hie
   have:=hfin g.length false ls' outv τ hr (fun _=>rfl) (fun k=>ho.Ar k)
   (repeat' (first|refine Run.ct rfl ?_|((first|refine Run.reg mixed ?_|refine Run.AD ?_)<;>try simp -implicitDefEqProofs only [Bd hlt,ho.Ar,go_sem])|fail))
   exact this
end Go.Ab
namespace Go.Ab
open Go.Proofs
def Rt (fs:List FE) (x:Ex×List Str):List Nat:=if x.1.op=4∧x.2.contains x.1.name=false then (match Ct (CU fs) x.1.name with|some f=>[f]|none=>[]) else []
def E9 (fs:List FE) (l:List (Ex×List Str)):List Nat:=l.flatMap (Rt fs)
theorem ZD (fs:List FE) (x:Ex×List Str):(Rt fs x).length≤1:=by
 unfold Rt
 split
 · split<;>simp
 · simp
theorem PU (fs:List FE):∀l:List (Ex×List Str),(E9 fs l).length≤l.length
 |[]=>by simp [E9]
 |x::l=>by
  have h1:=PU fs l
  have h2:=ZD fs x
  simp only [E9,MB,AS,A5] at h1 ⊢
  omega
theorem XD (fs:List FE) (l m:List (Ex×List Str)):E9 fs (l++m)=E9 fs l++E9 fs m:=by simp [E9]
theorem Vc (fs:List FE) (x:Ex×List Str) (m:List (Ex×List Str)):E9 fs (x::m)=Rt fs x++E9 fs m:=by simp [E9]
theorem OW {vis:Ex→List Str→Int}:∀ {l:List (Ex×List Str)} (m:List (Ex×List Str)),EH vis l=none→EH vis (l++m)=(EH vis m).map fun y=>(y.1+l.length,y.2)
 |[],m,_=>by simp
 |x::l,m,h=>by
  rw [EH] at h
  split at h
  · rename_i h0
    have hl:EH vis l=none:=by simpa using h
    rw [Ad,EH,if_pos h0,OW m hl]
    cases EH vis m with
    |none=>rfl
    |some y=>simp;omega
  · cases h
theorem Li {vis:Ex→List Str→Int}:∀ {l:List (Ex×List Str)} (m:List (Ex×List Str)) {r:Nat×Int},EH vis l=some r→EH vis (l++m)=some r
 |[],m,r,h=>by cases h
 |x::l,m,r,h=>by
  rw [EH] at h
  rw [Ad,EH]
  split at h
  · rename_i h0
    rw [if_pos h0]
    cases hl:EH vis l with
    |none=>rw [hl] at h;cases h
    |some y=>rw [hl] at h;rw [Li m hl];exact h
  · rename_i h0
    rw [if_neg h0];exact h
theorem Qh (sc:List Str) (m:List Al):∀l:List Al,Bx sc (l++m)=Bx sc l++Bx sc m
 |[]=>by rw [Bx];rfl
 |a::l=>by rw [Ad,Bx,Bx,Qh sc m l,Ag]
def WS (σ0:AF) (j:Nat) (ps:List DE) (fs:List FE) (dt:List Dat) (n:Nat) (us:List Nat) (τ:AF):Prop:=
 ∃uv,τ.blk j=some (wkB ps fs dt n uv)∧Cg σ0 3 1 (us.map DI) uv τ∧σ0.blk j=none
theorem WS.le {σ0:AF} {j:Nat} {ps:List DE} {fs:List FE} {dt:List Dat} {n:Nat} {us:List Nat} {τ:AF} (h:WS σ0 j ps fs dt n us τ):σ0.le τ:=by
 obtain ⟨uv,_,h,_⟩:=h;exact h.le
def okX (x:Ex×List Str):Prop:=YR x.1∧(x.1.op=10→x.1.alts≠[])
theorem UA (o:Int) (n:Str) (u:Int) (ns:List Str) (ks:List Ex) (al:List Al) (sc:List Str):B7 (.mk o n u ns ks al) sc=(.mk o n u ns ks al,sc)::(Bi o n ns sc 0 ks++Bx sc al):=by rw [B7]
theorem Wh {vis:Ex→List Str→Int} {x:Ex×List Str} {l:List (Ex×List Str)} (h:vis x.1 x.2=0):EH vis (x::l)=(EH vis l).map fun y=>(y.1+1,y.2):=by rw [EH,if_pos h]
theorem Zf {vis:Ex→List Str→Int} {x:Ex×List Str} {l:List (Ex×List Str)} (h:vis x.1 x.2≠0):EH vis (x::l)=some (0,vis x.1 x.2):=by rw [EH,if_neg h]
def I6 (σ0:AF) (j:Nat) (ps:List DE) (fs:List FE) (dt:List Dat) (e:Ex) (sc:List Str) (n:Nat) (us:List Nat) (v:AV) (σ':AF):Prop:=
 match EH (EX fs dt) (B7 e sc) with
 |none=>v= .tup [.d (.int .i64 0),.d (.int .i64 0)]∧WS σ0 j ps fs dt (n+e.size) (us++E9 fs (B7 e sc)) σ'
 |some (k,c)=>v= .tup [.d (.int .i64 c),.d (.int .i64 ((n+k:Nat):Int))]∧σ0.le σ'
set_option maxRecDepth 4000 in
set_option maxHeartbeats 16000000 in
theorem TL (σ0:AF) (j:Nat) (ps:List DE) (fs:List FE) (dt:List Dat) (hdt:QS dt) (hfl:fs.length≤1000):
 ∀(N:Nat) (e:Ex) (sc:List Str) (n:Nat) (us:List Nat) (τ:AF),e.size≤N→n+e.size≤1000000→us.length≤n→sc.length≤1000000→(∀x∈B7 e sc,okX x∧x.2.length≤1000000)→WS σ0 j ps fs dt n us τ→
  AM Tryz.prog 34 [.gp j 0,exA e,.d (.sl (sc.map BF))] τ (I6 σ0 j ps fs dt e sc n us):=by
 intro N
 induction N with
 |zero=>intro e sc n us τ h;have:=Ex.size_pos e;omega
 |succ N ihN=>
 rintro ⟨o,nm,u,ns,ks,al⟩ sc n us τ hN hn1 hus hscl hgood ⟨uv,hb,ho,hj0⟩
 simp only [Ex.size] at hN hn1
 have hlen:=Ex.C9 ks
 have hlen2:=Al.C9 al
 refine Ra (by simp) ?_
 rw [Lc,exA,Ex.A7]
 simp only [AI,AO]
 generalize hQ:I6 σ0 j ps fs dt (.mk o nm u ns ks al) sc n us=Q
 have hw0:IntKind.i64.wrap ((n:Int)+1)=((n+1:Nat):Int):=A6 (by omega)
 unfold wkB at hb
 have hcl:bA (sc.map BF) none (some (.d (.int .i64 (sc.length:Int)))) (some (.d (.int .i64 (sc.length:Int)))) 1=some (.clip (sc.map BF)):=by
  simp [bA,TT,Of]
  rw [AH (by simp)]
 have hW1:WS σ0 j ps fs dt (n+1) us (τ.AP j (wkB ps fs dt ((n+1:Nat):Int) uv)):=⟨uv,by rw [AL,if_pos rfl],ho.set hj0 _,hj0⟩
 unfold wkB at hW1
 have hvis:=L9 fs dt o nm u ns ks al sc
 have hpre:=UA o nm u ns ks al sc
 have hErr0:EX fs dt (.mk o nm u ns ks al) sc≠0→∀τ'',σ0.le τ''→Q (.tup [.d (.int .i64 (EX fs dt (.mk o nm u ns ks al) sc)),.d (.int .i64 (n:Int))]) τ'':=fun h τ'' hle=>by
  rw [← hQ,I6,hpre,Zf h]
  exact ⟨by simp,hle⟩
 have hErr:EX fs dt (.mk o nm u ns ks al) sc=0→∀(k:Nat) (c:Int),EH (EX fs dt) (Bi o nm ns sc 0 ks++Bx sc al)=some (k,c)→∀τ'',σ0.le τ''→Q (.tup [.d (.int .i64 c),.d (.int .i64 ((n+1+k:Nat):Int))]) τ'':=fun h k c hk τ'' hle=>by
  rw [← hQ,I6,hpre,Wh h,hk]
  rw [show n+1+k=n+(k+1) by omega]
  exact ⟨rfl,hle⟩
 have hOk:EX fs dt (.mk o nm u ns ks al) sc=0→EH (EX fs dt) (Bi o nm ns sc 0 ks++Bx sc al)=none→∀τ'',WS σ0 j ps fs dt (n+1+Ex.A2 ks+Al.A2 al) (us++Rt fs (.mk o nm u ns ks al,sc)++E9 fs (Bi o nm ns sc 0 ks++Bx sc al)) τ''→Q (.tup [.d (.int .i64 0),.d (.int .i64 0)]) τ'':=fun h hk τ'' hW=>by
  rw [← hQ,I6,hpre,Wh h,hk]
  refine ⟨rfl,?_⟩
  rw [Vc,← Ag,Ex.size,show n+(1+Ex.A2 ks+Al.A2 al)=n+1+Ex.A2 ks+Al.A2 al by omega]
  exact hW
 rw [hpre] at hgood
 clear hQ hpre
 have hx0:=ZD fs (.mk o nm u ns ks al,sc)
 have h00:((0:Int) != 0)=false:=by decide
 have key:EX fs dt (.mk o nm u ns ks al) sc=0→∀τ':AF,WS σ0 j ps fs dt (n+1) (us++Rt fs (.mk o nm u ns ks al,sc)) τ'→
  Run Dr Q [.code (.loop Ix),.blk 1,.code (.seq (.seq (.reg [⟨some 20,.mv (.c (.d (.int .i64 0))),none⟩] [0,2,4,20]) (.block 4 (.loop Iy))) (.seq (.reg [⟨some 6,.mv (.c (.d (.int .i64 0))),none⟩,⟨some 7,.mv (.c (.d (.int .i64 0))),none⟩] [6,7]) .ret))]
   (put 0 (.gp j 0) (put 2 (.clip (sc.map BF)) (put 4 (.lp 4 0) (put 16 (.d (.int .i64 0)) U)))) (BE 4 [.d (.int .i64 o),.d (.str nm),.d (.int .i64 u),.d (.sl (ns.map BF)),.d (.sl (ks.map Ex.enc)),.d (.sl (al.map Al.enc))] E) τ':=by
  intro hv0 τ' hW'
  replace hErr:=hErr hv0
  replace hOk:=hOk hv0
  clear hErr0 hvis hb ho hW1
  generalize Rt fs (.mk o nm u ns ks al,sc)=ux at hOk hW' hx0
  refine Run.BD ?_
  refine Run.BG ((fun (a0:AV) (a2:AV) (a4:AV)=>fun (y:Nat×AF)=>put 0 a0 (put 2 a2 (put 4 a4 (put 16 (.d (.int .i64 y.1)) U)))) _ _ _) (fun _=>BE 4 [.d (.int .i64 o),.d (.str nm),.d (.int .i64 u),.d (.sl (ns.map BF)),.d (.sl (ks.map Ex.enc)),.d (.sl (al.map Al.enc))] E) (fun y=>y.2)
   (fun y=>y.1≤ks.length∧EH (EX fs dt) (Bi o nm ns sc 0 (ks.take y.1))=none∧WS σ0 j ps fs dt (n+1+Ex.A2 (ks.take y.1)) (us++ux++E9 fs (Bi o nm ns sc 0 (ks.take y.1))) y.2)
   (fun y=>ks.length - y.1) ?_ (0,τ') ⟨by simp,rfl,by simpa [Ex.A2,Bi,E9] using hW'⟩
  rintro ⟨i,τi⟩ ⟨hi,hno,hWi⟩ ih
  simp only at hi hno hWi
  by_cases hlt:i < ks.length
  · obtain ⟨kd,hx⟩:=BC hlt
    have he:=Ay (enc:=Ex.enc) hx
    have hw1:=A6 (show i+1≤9000000000000000000 by omega)
    have hksp:Bi o nm ns sc 0 ks=Bi o nm ns sc 0 (ks.take i)++(B7 kd (GX o nm ns sc i)++Bi o nm ns sc (i+1) (ks.drop (i+1))):=by
     conv=>lhs;rw [← A4 i ks,Bb hx]
     rw [S5,Bi,Aj,CO hi,Ak]
    have hsn:Bi o nm ns sc 0 (ks.take (i+1))=Bi o nm ns sc 0 (ks.take i)++B7 kd (GX o nm ns sc i):=by
     rw [Aw hx,Qi,Aj,CO hi,Ak]
    have hszs:=Ex.G1 hx
    have hkl:Ex.A2 (ks.take i)+kd.size≤Ex.A2 ks:=by
     have:=congrArg List.length hksp
     rw [FF,AS,AS,FF,JT] at this
     omega
    have hmem:∀x∈B7 kd (GX o nm ns sc i),x∈(.mk o nm u ns ks al,sc)::(Bi o nm ns sc 0 ks++Bx sc al):=fun x hm=>by
     refine B8 _ (OF _ ?_)
     rw [hksp]
     exact List.mem_append_right _ (OF _ hm)
    have hil:(GX o nm ns sc i).length≤1000000:=by
     obtain ⟨ko,kn,ku,kns,kks,kal⟩:=kd
     exact (hgood _ (hmem (.mk ko kn ku kns kks kal,GX o nm ns sc i) (by rw [UA];exact BT ..))).2
    have hul:=PU fs (Bi o nm ns sc 0 (ks.take i))
    rw [FF] at hul
    have hk:=ihN kd (GX o nm ns sc i) (n+1+Ex.A2 (ks.take i)) _ τi (by omega) (by omega) (by simp only [AS];omega) hil (fun x hm=>hgood x (hmem x hm)) hWi
    have hck:∀iv:AV,iv.plain= .d (.sl ((GX o nm ns sc i).map BF))→AM Tryz.prog 34 [.gp j 0,exA kd,iv] τi (I6 σ0 j ps fs dt kd (GX o nm ns sc i) (n+1+Ex.A2 (ks.take i)) (us++ux++E9 fs (Bi o nm ns sc 0 (ks.take i)))):=fun iv hiv=>by
     refine AM.plain ?_
     have hp:∀l:List DV,AV.DM (l.map AV.d)=l.map AV.d:=fun l=>by
      induction l with
      |nil=>rfl
      |cons x l ih=>rw [AI,AV.DM,Gc,ih]
     simp only [AV.DM,hiv,VA,exA,Ij,hp]
     exact hk
    clear hk
    have hcase:∀(v:AV) (τ2:AF),I6 σ0 j ps fs dt kd (GX o nm ns sc i) (n+1+Ex.A2 (ks.take i)) (us++ux++E9 fs (Bi o nm ns sc 0 (ks.take i))) v τ2→
     (v= .tup [.d (.int .i64 0),.d (.int .i64 0)]∧EH (EX fs dt) (B7 kd (GX o nm ns sc i))=none∧WS σ0 j ps fs dt (n+1+Ex.A2 (ks.take i)+kd.size) (us++ux++E9 fs (Bi o nm ns sc 0 (ks.take i))++E9 fs (B7 kd (GX o nm ns sc i))) τ2)∨
     (∃k' c,v= .tup [.d (.int .i64 c),.d (.int .i64 ((n+1+Ex.A2 (ks.take i)+k':Nat):Int))]∧c≠0∧σ0.le τ2∧EH (EX fs dt) (B7 kd (GX o nm ns sc i))=some (k',c)):=fun v τ2 hq=>by
     unfold I6 at hq
     cases hek:EH (EX fs dt) (B7 kd (GX o nm ns sc i)) with
     |none=>rw [hek] at hq;exact .inl ⟨hq.1,rfl,hq.2⟩
     |some r=>obtain ⟨k',c⟩:=r;rw [hek] at hq;exact .inr ⟨k',c,hq.1,R4 hek,hq.2,rfl⟩
    have hnext:=fun (τ2:AF) (h1:EH (EX fs dt) (B7 kd (GX o nm ns sc i))=none) (h2:WS σ0 j ps fs dt (n+1+Ex.A2 (ks.take i)+kd.size) (us++ux++E9 fs (Bi o nm ns sc 0 (ks.take i))++E9 fs (B7 kd (GX o nm ns sc i))) τ2)=>
     ih (i+1,τ2) ⟨by simp only;omega,by simp only;rw [hsn,OW _ hno,h1];rfl,by simp only;rw [hszs,hsn,XD,← Ag,← OA];exact h2⟩ (by simp only;omega)
    simp only at hnext
    have hbad:∀(k':Nat) (c:Int),EH (EX fs dt) (B7 kd (GX o nm ns sc i))=some (k',c)→∀τ2,σ0.le τ2→Q (.tup [.d (.int .i64 c),.d (.int .i64 ((n+1+Ex.A2 (ks.take i)+k':Nat):Int))]) τ2:=fun k' c hek τ2 hle=>by
     have:=hErr (k'+Ex.A2 (ks.take i)) c (by
      rw [hksp,Ag,OW _ hno,Ag,Li _ hek,FF];rfl) τ2 hle
     rwa [show n+1+(k'+Ex.A2 (ks.take i))=n+1+Ex.A2 (ks.take i)+k' by omega] at this
    have hsR:∀r∈sc.map BF,r.length=1:=fun r hr=>by
     obtain ⟨s,_,rfl⟩:=Dw.1 hr;rfl
    have hnR:∀r∈ns.map BF,r.length=1:=fun r hr=>by
     obtain ⟨s,_,rfl⟩:=Dw.1 hr;rfl
    clear ih hErr hOk hgood hksp hmem
    obtain ⟨ko,kn,ku,kns,kks,kal⟩:=kd
    simp only [exA,Ex.A7,AI,AO] at he hck
    have hi1:(((1:Nat):Int)==1)=true:=by decide
    by_cases hA:(o=7∨o=17)∧i=1∧nm≠[]
    · obtain ⟨hoo,rfl,hnm⟩:=hA
      have hnb:(nm==[])=false:=by simpa using hnm
      have hiv:AV.plain (.d (.sl (sc.map BF++[[.str nm]])))= .d (.sl ((GX o nm ns sc 1).map BF)):=by
       rw [Gc,GX,if_pos ⟨hoo,rfl⟩,if_neg hnm];simp [BF]
      rcases hoo with rfl|rfl
      · (repeat' (first|refine Run.ct rfl ?_|((first|refine Run.reg mixed ?_|refine Run.AD ?_|(refine Dy.clip rfl hsR (by simp) (by simp;omega) (by decide) ?_)|(refine AJ.mk rfl (hck _ hiv) ?_;intro v τ2 hq;refine Or.elim (hcase v τ2 hq) (fun h1=>?_) (fun h2=>?_);obtain ⟨rfl,hn2,hW2⟩:=h1;rotate_left;obtain ⟨k',c,rfl,hcn,hle2,hek⟩:=h2;rotate_left)|(refine Run.A1 At (AF.le_refl _) ?_))<;>try simp -implicitDefEqProofs only [A8 hlt,he,hw1,h00,AA,AU,hi1,hnb,Cd,go_sem])|(refine ⟨fun h=>?_,fun h=>?_⟩<;>first|(cases h;done)|try simp only [h])|fail))
        all_goals first|exact hnext _ hn2 hW2|exact hbad _ _ hek _ hle2|exact absurd hcn (by simpa using ‹(_ != (0:Int))=false›)
      · (repeat' (first|refine Run.ct rfl ?_|((first|refine Run.reg mixed ?_|refine Run.AD ?_|(refine Dy.clip rfl hsR (by simp) (by simp;omega) (by decide) ?_)|(refine AJ.mk rfl (hck _ hiv) ?_;intro v τ2 hq;refine Or.elim (hcase v τ2 hq) (fun h1=>?_) (fun h2=>?_);obtain ⟨rfl,hn2,hW2⟩:=h1;rotate_left;obtain ⟨k',c,rfl,hcn,hle2,hek⟩:=h2;rotate_left)|(refine Run.A1 At (AF.le_refl _) ?_))<;>try simp -implicitDefEqProofs only [A8 hlt,he,hw1,h00,AA,AU,hi1,hnb,Cd,go_sem])|(refine ⟨fun h=>?_,fun h=>?_⟩<;>first|(cases h;done)|try simp only [h])|fail))
        all_goals first|exact hnext _ hn2 hW2|exact hbad _ _ hek _ hle2|exact absurd hcn (by simpa using ‹(_ != (0:Int))=false›)
    by_cases hB:(o=8∧i=1)∨o=11
    · have hiv:AV.plain (.d (.sl (sc.map BF++ns.map BF)))= .d (.sl ((GX o nm ns sc i).map BF)):=by
       rw [Gc,GX,if_neg (by omega),if_pos hB];simp
      have hnl:sc.length+ns.length≤1000000:=by
       rw [GX,if_neg (by omega),if_pos hB,AS] at hil;exact hil
      rcases hB with ⟨rfl,rfl⟩|rfl
      · (repeat' (first|refine Run.ct rfl ?_|((first|refine Run.reg mixed ?_|refine Run.AD ?_|(refine Dy.clip rfl hsR (by exact hnR) (by simp;omega) (by decide) ?_)|(refine AJ.mk rfl (hck _ hiv) ?_;intro v τ2 hq;refine Or.elim (hcase v τ2 hq) (fun h1=>?_) (fun h2=>?_);obtain ⟨rfl,hn2,hW2⟩:=h1;rotate_left;obtain ⟨k',c,rfl,hcn,hle2,hek⟩:=h2;rotate_left)|(refine Run.A1 At (AF.le_refl _) ?_))<;>try simp -implicitDefEqProofs only [A8 hlt,he,hw1,h00,AA,AU,hi1,go_sem])|(refine ⟨fun h=>?_,fun h=>?_⟩<;>first|(cases h;done)|try simp only [h])|fail))
        all_goals first|exact hnext _ hn2 hW2|exact hbad _ _ hek _ hle2|exact absurd hcn (by simpa using ‹(_ != (0:Int))=false›)
      · (repeat' (first|refine Run.ct rfl ?_|((first|refine Run.reg mixed ?_|refine Run.AD ?_|(refine Dy.clip rfl hsR (by exact hnR) (by simp;omega) (by decide) ?_)|(refine AJ.mk rfl (hck _ hiv) ?_;intro v τ2 hq;refine Or.elim (hcase v τ2 hq) (fun h1=>?_) (fun h2=>?_);obtain ⟨rfl,hn2,hW2⟩:=h1;rotate_left;obtain ⟨k',c,rfl,hcn,hle2,hek⟩:=h2;rotate_left)|(refine Run.A1 At (AF.le_refl _) ?_))<;>try simp -implicitDefEqProofs only [A8 hlt,he,hw1,h00,AA,AU,go_sem])|(refine ⟨fun h=>?_,fun h=>?_⟩<;>first|(cases h;done)|try simp only [h])|fail))
        all_goals first|exact hnext _ hn2 hW2|exact hbad _ _ hek _ hle2|exact absurd hcn (by simpa using ‹(_ != (0:Int))=false›)
    have hiv:AV.plain (.clip (sc.map BF))= .d (.sl ((GX o nm ns sc i).map BF)):=by
     unfold GX
     by_cases h7:(o=7∨o=17)∧i=1
     · have hnm:nm=[]:=by
        by_cases hn:nm=[]
        · exact hn
        · exact absurd ⟨h7.1,h7.2,hn⟩ hA
       rw [if_pos h7,if_pos hnm];rfl
     · rw [if_neg h7,if_neg hB];rfl
    by_cases h7:o=7∨o=17
    · by_cases hi1':i=1
      · subst hi1'
        have hnb:(nm==[])=true:=by
         by_cases hn:nm=[]
         · simp [hn]
         · exact absurd ⟨h7,rfl,hn⟩ hA
        rcases h7 with rfl|rfl
        · (repeat' (first|refine Run.ct rfl ?_|((first|refine Run.reg mixed ?_|refine Run.AD ?_|(refine AJ.mk rfl (hck _ hiv) ?_;intro v τ2 hq;refine Or.elim (hcase v τ2 hq) (fun h1=>?_) (fun h2=>?_);obtain ⟨rfl,hn2,hW2⟩:=h1;rotate_left;obtain ⟨k',c,rfl,hcn,hle2,hek⟩:=h2;rotate_left)|(refine Run.A1 At (AF.le_refl _) ?_))<;>try simp -implicitDefEqProofs only [A8 hlt,he,hw1,h00,AA,AU,hi1,hnb,Cd,go_sem])|(refine ⟨fun h=>?_,fun h=>?_⟩<;>first|(cases h;done)|try simp only [h])|fail))
          all_goals first|exact hnext _ hn2 hW2|exact hbad _ _ hek _ hle2|exact absurd hcn (by simpa using ‹(_ != (0:Int))=false›)
        · (repeat' (first|refine Run.ct rfl ?_|((first|refine Run.reg mixed ?_|refine Run.AD ?_|(refine AJ.mk rfl (hck _ hiv) ?_;intro v τ2 hq;refine Or.elim (hcase v τ2 hq) (fun h1=>?_) (fun h2=>?_);obtain ⟨rfl,hn2,hW2⟩:=h1;rotate_left;obtain ⟨k',c,rfl,hcn,hle2,hek⟩:=h2;rotate_left)|(refine Run.A1 At (AF.le_refl _) ?_))<;>try simp -implicitDefEqProofs only [A8 hlt,he,hw1,h00,AA,AU,hi1,hnb,Cd,go_sem])|(refine ⟨fun h=>?_,fun h=>?_⟩<;>first|(cases h;done)|try simp only [h])|fail))
          all_goals first|exact hnext _ hn2 hW2|exact hbad _ _ hek _ hle2|exact absurd hcn (by simpa using ‹(_ != (0:Int))=false›)
      · have hib:((i:Int)==1)=false:=CZ (by omega)
        rcases h7 with rfl|rfl
        · (repeat' (first|refine Run.ct rfl ?_|((first|refine Run.reg mixed ?_|refine Run.AD ?_|(refine AJ.mk rfl (hck _ hiv) ?_;intro v τ2 hq;refine Or.elim (hcase v τ2 hq) (fun h1=>?_) (fun h2=>?_);obtain ⟨rfl,hn2,hW2⟩:=h1;rotate_left;obtain ⟨k',c,rfl,hcn,hle2,hek⟩:=h2;rotate_left)|(refine Run.A1 At (AF.le_refl _) ?_))<;>try simp -implicitDefEqProofs only [A8 hlt,he,hw1,h00,AA,AU,hib,go_sem])|(refine ⟨fun h=>?_,fun h=>?_⟩<;>first|(cases h;done)|try simp only [h])|fail))
          all_goals first|exact hnext _ hn2 hW2|exact hbad _ _ hek _ hle2|exact absurd hcn (by simpa using ‹(_ != (0:Int))=false›)
        · (repeat' (first|refine Run.ct rfl ?_|((first|refine Run.reg mixed ?_|refine Run.AD ?_|(refine AJ.mk rfl (hck _ hiv) ?_;intro v τ2 hq;refine Or.elim (hcase v τ2 hq) (fun h1=>?_) (fun h2=>?_);obtain ⟨rfl,hn2,hW2⟩:=h1;rotate_left;obtain ⟨k',c,rfl,hcn,hle2,hek⟩:=h2;rotate_left)|(refine Run.A1 At (AF.le_refl _) ?_))<;>try simp -implicitDefEqProofs only [A8 hlt,he,hw1,h00,AA,AU,hib,go_sem])|(refine ⟨fun h=>?_,fun h=>?_⟩<;>first|(cases h;done)|try simp only [h])|fail))
          all_goals first|exact hnext _ hn2 hW2|exact hbad _ _ hek _ hle2|exact absurd hcn (by simpa using ‹(_ != (0:Int))=false›)
    · have h7f:(o==7)=false:=CZ (by omega)
      have h17f:(o==17)=false:=CZ (by omega)
      have h11f:(o==11)=false:=CZ (by omega)
      by_cases h8:o=8
      · subst h8
        have hib:((i:Int)==1)=false:=CZ (by omega)
        (repeat' (first|refine Run.ct rfl ?_|((first|refine Run.reg mixed ?_|refine Run.AD ?_|(refine AJ.mk rfl (hck _ hiv) ?_;intro v τ2 hq;refine Or.elim (hcase v τ2 hq) (fun h1=>?_) (fun h2=>?_);obtain ⟨rfl,hn2,hW2⟩:=h1;rotate_left;obtain ⟨k',c,rfl,hcn,hle2,hek⟩:=h2;rotate_left)|(refine Run.A1 At (AF.le_refl _) ?_))<;>try simp -implicitDefEqProofs only [A8 hlt,he,hw1,h00,AA,AU,hib,go_sem])|(refine ⟨fun h=>?_,fun h=>?_⟩<;>first|(cases h;done)|try simp only [h])|fail))
        all_goals first|exact hnext _ hn2 hW2|exact hbad _ _ hek _ hle2|exact absurd hcn (by simpa using ‹(_ != (0:Int))=false›)
      · have h8f:(o==8)=false:=CZ h8
        (repeat' (first|refine Run.ct rfl ?_|((first|refine Run.reg mixed ?_|refine Run.AD ?_|(refine AJ.mk rfl (hck _ hiv) ?_;intro v τ2 hq;refine Or.elim (hcase v τ2 hq) (fun h1=>?_) (fun h2=>?_);obtain ⟨rfl,hn2,hW2⟩:=h1;rotate_left;obtain ⟨k',c,rfl,hcn,hle2,hek⟩:=h2;rotate_left)|(refine Run.A1 At (AF.le_refl _) ?_))<;>try simp -implicitDefEqProofs only [A8 hlt,he,hw1,h00,AA,h7f,h17f,h8f,h11f,go_sem])|(refine ⟨fun h=>?_,fun h=>?_⟩<;>first|(cases h;done)|try simp only [h])|fail))
        all_goals first|exact hnext _ hn2 hW2|exact hbad _ _ hek _ hle2|exact absurd hcn (by simpa using ‹(_ != (0:Int))=false›)
  · rw [AH (by omega)] at hno hWi
    clear ih
    (repeat' (first|refine Run.ct rfl ?_|((first|refine Run.reg mixed ?_|refine Run.AD ?_)<;>try simp -implicitDefEqProofs only [Bd hlt,AA,go_sem])|fail))
    refine Run.BD ?_
    refine Run.BG ((fun (a0:AV) (a2:AV) (a4:AV)=>fun (y:Nat×AF)=>put 0 a0 (put 2 a2 (put 4 a4 (put 20 (.d (.int .i64 y.1)) U)))) _ _ _) (fun _=>BE 4 [.d (.int .i64 o),.d (.str nm),.d (.int .i64 u),.d (.sl (ns.map BF)),.d (.sl (ks.map Ex.enc)),.d (.sl (al.map Al.enc))] E) (fun y=>y.2)
     (fun y=>y.1≤al.length∧EH (EX fs dt) (Bi o nm ns sc 0 ks++Bx sc (al.take y.1))=none∧WS σ0 j ps fs dt (n+1+Ex.A2 ks+Al.A2 (al.take y.1)) (us++ux++E9 fs (Bi o nm ns sc 0 ks++Bx sc (al.take y.1))) y.2)
     (fun y=>al.length - y.1) ?_ (0,τi) ⟨by simp,by simpa [Bx] using hno,by simpa [Al.A2,Bx] using hWi⟩
    rintro ⟨q,τq⟩ ⟨hq0,hnq,hWq⟩ ih
    simp only at hq0 hnq hWq
    by_cases hltq:q < al.length
    · obtain ⟨ad,hx⟩:=BC hltq
      have he:=Ay (enc:=Al.enc) hx
      have hw1:=A6 (show q+1≤9000000000000000000 by omega)
      obtain ⟨ac,avs,ab⟩:=ad
      have hasp:Bx sc al=Bx sc (al.take q)++(B7 ab (sc++avs)++Bx sc (al.drop (q+1))):=by
       conv=>lhs;rw [← A4 q al,Bb hx]
       rw [Qh,Bx,S3]
      have hsn:Bx sc (al.take (q+1))=Bx sc (al.take q)++B7 ab (sc++avs):=by
       rw [Aw hx,Qh,Bx,S3,Bx,Aq]
      have hszs:=Al.G1 hx
      rw [Al.size] at hszs
      have hal2:Al.A2 (al.take q)+ab.size≤Al.A2 al:=by
       have:=congrArg List.length hasp
       rw [H2,AS,AS,H2,JT] at this
       omega
      have hmem:∀x∈B7 ab (sc++avs),x∈(.mk o nm u ns ks al,sc)::(Bi o nm ns sc 0 ks++Bx sc al):=fun x hm=>by
       refine B8 _ (List.mem_append_right _ ?_)
       rw [hasp]
       exact List.mem_append_right _ (OF _ hm)
      have hil:(sc++avs).length≤1000000:=by
       obtain ⟨ko,kn,ku,kns,kks,kal⟩:=ab
       exact (hgood _ (hmem (.mk ko kn ku kns kks kal,sc++avs) (by rw [UA];exact BT ..))).2
      rw [AS] at hil
      have hul:=PU fs (Bi o nm ns sc 0 ks++Bx sc (al.take q))
      rw [AS,FF,H2] at hul
      have hk:=ihN ab (sc++avs) (n+1+Ex.A2 ks+Al.A2 (al.take q)) _ τq (by omega) (by omega) (by simp only [AS];omega) (by rw [AS];exact hil) (fun x hm=>hgood x (hmem x hm)) hWq
      have hck:∀iv:AV,iv.plain= .d (.sl ((sc++avs).map BF))→AM Tryz.prog 34 [.gp j 0,exA ab,iv] τq (I6 σ0 j ps fs dt ab (sc++avs) (n+1+Ex.A2 ks+Al.A2 (al.take q)) (us++ux++E9 fs (Bi o nm ns sc 0 ks++Bx sc (al.take q)))):=fun iv hiv=>by
       refine AM.plain ?_
       have hp:∀l:List DV,AV.DM (l.map AV.d)=l.map AV.d:=fun l=>by
        induction l with
        |nil=>rfl
        |cons x l ih=>rw [AI,AV.DM,Gc,ih]
       simp only [AV.DM,hiv,VA,exA,Ij,hp]
       exact hk
      clear hk
      have hcase:∀(v:AV) (τ2:AF),I6 σ0 j ps fs dt ab (sc++avs) (n+1+Ex.A2 ks+Al.A2 (al.take q)) (us++ux++E9 fs (Bi o nm ns sc 0 ks++Bx sc (al.take q))) v τ2→
       (v= .tup [.d (.int .i64 0),.d (.int .i64 0)]∧EH (EX fs dt) (B7 ab (sc++avs))=none∧WS σ0 j ps fs dt (n+1+Ex.A2 ks+Al.A2 (al.take q)+ab.size) (us++ux++E9 fs (Bi o nm ns sc 0 ks++Bx sc (al.take q))++E9 fs (B7 ab (sc++avs))) τ2)∨
       (∃k' c,v= .tup [.d (.int .i64 c),.d (.int .i64 ((n+1+Ex.A2 ks+Al.A2 (al.take q)+k':Nat):Int))]∧c≠0∧σ0.le τ2∧EH (EX fs dt) (B7 ab (sc++avs))=some (k',c)):=fun v τ2 hq=>by
       unfold I6 at hq
       cases hek:EH (EX fs dt) (B7 ab (sc++avs)) with
       |none=>rw [hek] at hq;exact .inl ⟨hq.1,rfl,hq.2⟩
       |some r=>obtain ⟨k',c⟩:=r;rw [hek] at hq;exact .inr ⟨k',c,hq.1,R4 hek,hq.2,rfl⟩
      have hnext:=fun (τ2:AF) (h1:EH (EX fs dt) (B7 ab (sc++avs))=none) (h2:WS σ0 j ps fs dt (n+1+Ex.A2 ks+Al.A2 (al.take q)+ab.size) (us++ux++E9 fs (Bi o nm ns sc 0 ks++Bx sc (al.take q))++E9 fs (B7 ab (sc++avs))) τ2)=>
       ih (q+1,τ2) ⟨by simp only;omega,by simp only;rw [hsn,← Ag,OW _ hnq,h1];rfl,by simp only;rw [hszs,hsn,← Ag,XD fs _ (B7 ab (sc++avs)),← Ag,← OA];exact h2⟩ (by simp only;omega)
      simp only at hnext
      have hbad:∀(k':Nat) (c:Int),EH (EX fs dt) (B7 ab (sc++avs))=some (k',c)→∀τ2,σ0.le τ2→Q (.tup [.d (.int .i64 c),.d (.int .i64 ((n+1+Ex.A2 ks+Al.A2 (al.take q)+k':Nat):Int))]) τ2:=fun k' c hek τ2 hle=>by
       have:=hErr (k'+(Ex.A2 ks+Al.A2 (al.take q))) c (by
        rw [hasp,← Ag,OW _ hnq,Li _ hek,AS,FF,H2];rfl) τ2 hle
       rwa [show n+1+(k'+(Ex.A2 ks+Al.A2 (al.take q)))=n+1+Ex.A2 ks+Al.A2 (al.take q)+k' by omega] at this
      have hsR:∀r∈sc.map BF,r.length=1:=fun r hr=>by
       obtain ⟨s,_,rfl⟩:=Dw.1 hr;rfl
      have hvR:∀r∈avs.map BF,r.length=1:=fun r hr=>by
       obtain ⟨s,_,rfl⟩:=Dw.1 hr;rfl
      have hiv:AV.plain (.d (.sl (sc.map BF++avs.map BF)))= .d (.sl ((sc++avs).map BF)):=by rw [Gc];simp
      clear ih hErr hOk hgood hasp hmem
      obtain ⟨ko,kn,ku,kns,kks,kal⟩:=ab
      simp only [exA,Al.A7,Ex.A7,AI,AO] at he hck
      (repeat' (first|refine Run.ct rfl ?_|((first|refine Run.reg mixed ?_|refine Run.AD ?_)<;>try simp -implicitDefEqProofs only [A8 hltq,he,hw1,h00,AA,go_sem])|fail))
      refine Run.Sa mixed ?_
      simp -implicitDefEqProofs only [he,hw1,h00,AA,and_true,go_sem]
      refine And.intro ?_ ?_
      all_goals (repeat' (first|refine Run.ct rfl ?_|((first|refine Run.reg mixed ?_|refine Run.AD ?_|(refine Dy.clip rfl hsR (by exact hvR) (by simp;omega) (by decide) ?_)|(refine AJ.mk rfl (hck _ hiv) ?_;intro v τ2 hq;refine Or.elim (hcase v τ2 hq) (fun h1=>?_) (fun h2=>?_);obtain ⟨rfl,hn2,hW2⟩:=h1;rotate_left;obtain ⟨k',c,rfl,hcn,hle2,hek⟩:=h2;rotate_left)|(refine Run.A1 At (AF.le_refl _) ?_))<;>try simp -implicitDefEqProofs only [he,hw1,h00,AA,go_sem])|(refine ⟨fun h=>?_,fun h=>?_⟩<;>first|(cases h;done)|try simp only [h])|fail))
      all_goals first|exact hnext _ hn2 hW2|exact hbad _ _ hek _ hle2|exact absurd hcn (by simpa using ‹(_ != (0:Int))=false›)
    · rw [AH (by omega)] at hnq hWq
      have hfin:=hOk hnq τq hWq
      (repeat' (first|refine Run.ct rfl ?_|((first|refine Run.reg mixed ?_|refine Run.AD ?_|(refine Run.A1 At (AF.le_refl _) ?_))<;>try simp -implicitDefEqProofs only [Bd hltq,AA,go_sem])|fail))
      exact hfin
 have hslt:∀q:Nat,decide ((q:Int) < 0)=false:=fun q=>decide_eq_false (by omega)
 (repeat' (first|refine Run.cb rfl ?_|((first|refine Run.reg mixed ?_|refine Run.AD ?_)<;>try simp -implicitDefEqProofs only [hb,hw0,hcl,AA,ho.cell,DN,Cs,go_sem])|fail))
 generalize hσ1:τ.AP j [AV.d (.sl (ps.map DE.enc)),.d (.sl (fs.map FE.enc)),.d (.sl (dt.map Dat.enc)),.d (.int .i64 ((n+1:Nat):Int)),uv]=σ1 at hW1 ⊢
 have hb1:σ1.blk j=some [AV.d (.sl (ps.map DE.enc)),.d (.sl (fs.map FE.enc)),.d (.sl (dt.map Dat.enc)),.d (.int .i64 ((n+1:Nat):Int)),uv]:=by rw [← hσ1,AL,if_pos rfl]
 have ho1:Cg σ0 3 1 (us.map DI) uv σ1:=by rw [← hσ1];exact ho.set hj0 _
 have hle1:=ho1.le
 clear hσ1 ho hb hw0
 obtain ⟨⟨hg4,hg12,hgal,hgk⟩,hg10⟩:=(hgood _ (BT ..)).1
 replace hg4:o=4→nm≠[]:=hg4
 replace hg12:o=12→∃h t,ks=h::t∧(h.op=4→h.name≠[]):=hg12
 replace hg10:o=10→al≠[]:=hg10
 have hux:o≠4→Rt fs (.mk o nm u ns ks al,sc)=[]:=fun h=>by
  unfold Rt;rw [if_neg (fun hc=>h hc.1)]
 have hgo:o≠4→EX fs dt (.mk o nm u ns ks al) sc=0→_:=fun h hv=>key hv σ1 (by rw [hux h,Aq];exact hW1)
 have hctr:=L3 dt hdt nm σ1
 rw [dsA] at hctr
 have hfi:=fun s=>Oh sc s (.clip (sc.map BF)) rfl σ1
 have hfun:=fun s=>Oi ps fs dt ((n+1:Nat):Int) uv j s σ1 hfl hb1
 by_cases h4:o=4
 · subst h4
   rw [if_pos rfl] at hvis
   have hfi:=hfi nm
   have hfun:=hfun nm
   have hin:=GW sc nm
   cases hix:Ct sc nm with
   |some q=>
    rw [hix] at hfi hin
    simp only [Ee,Bp] at hfi hin
    rw [← hin] at hvis
    have hv0:EX fs dt (.mk 4 nm u ns ks al) sc=0:=by rw [hvis];rfl
    have hu0:Rt fs (.mk 4 nm u ns ks al,sc)=[]:=by
     unfold Rt;rw [if_neg (fun h=>by have h2:sc.contains nm=false:=h.2;rw [← hin] at h2;cases h2)]
    have:=key hv0 σ1 (by rw [hu0,Aq];exact hW1)
    clear key hErr0 hErr hOk hgo
    (repeat' (first|refine Run.ct rfl ?_|((first|refine Run.reg mixed ?_|refine Run.AD ?_|(refine AJ.mk rfl hfi ?_;rintro _ _ ⟨rfl,rfl⟩))<;>try simp -implicitDefEqProofs only [AU,hslt,AA,go_sem])|fail))
    exact this
   |none=>
   rw [hix] at hfi hin
   simp only [Ee,CD] at hfi hin
   rw [← hin] at hvis
   have hneg:decide ((-1:Int) < 0)=true:=by decide
   cases hif:Ct (CU fs) nm with
   |none=>
    rw [hif] at hfun hvis
    simp only [Ee] at hfun
    replace hvis:EX fs dt (.mk 4 nm u ns ks al) sc=3:=by rw [hvis];rfl
    have:=hErr0 (by rw [hvis];decide) σ1 hle1
    rw [hvis] at this
    clear key hErr0 hErr hOk hgo
    (repeat' (first|refine Run.ct rfl ?_|((first|refine Run.reg mixed ?_|refine Run.AD ?_|(refine AJ.mk rfl hfi ?_;rintro _ _ ⟨rfl,rfl⟩)|(refine Run.A1 At (AF.le_refl _) ?_)|refine AJ.det (hfun) ?_)<;>try simp -implicitDefEqProofs only [AU,hneg,AA,go_sem])|fail))
    exact this
   |some f=>
    rw [hif] at hfun hvis
    simp only [Ee] at hfun
    replace hvis:EX fs dt (.mk 4 nm u ns ks al) sc=0:=by rw [hvis];rfl
    have hu0:Rt fs (.mk 4 nm u ns ks al,sc)=[f]:=by
     unfold Rt;rw [if_pos ⟨rfl,hin.symm⟩,show (Ex.mk 4 nm u ns ks al,sc).1.name=nm from rfl,hif]
    have hkey:=key hvis
    rw [hu0] at hkey
    clear key hErr0 hErr hOk hgo
    (repeat' (first|refine Run.ct rfl ?_|((first|refine Run.reg mixed ?_|refine Run.AD ?_|(refine AJ.mk rfl hfi ?_;rintro _ _ ⟨rfl,rfl⟩)|(refine Dy.own ho1 rfl (by simp) (by simp;omega) (by decide) (fun v2 σ2 ho2 hbk=>?_))|refine AJ.det (hfun) ?_)<;>try simp -implicitDefEqProofs only [AU,hneg,hslt,hb1,AA,ho1.cell,ho1.cells,ho1.BZ,ho1.Ar,go_sem])|fail))
    have hb2:=(hbk j).trans hb1
    simp -implicitDefEqProofs only [hb2,ho2.cells,ho2.cell,DN,Cs,go_sem]
    (repeat' (first|refine Run.ct rfl ?_|((first|refine Run.reg mixed ?_|refine Run.AD ?_)<;>try simp -implicitDefEqProofs only [hb2,ho2.cell,ho2.cells,ho2.Ar,go_sem])|fail))
    exact hkey _ ⟨v2,by rw [AL,if_pos rfl];rfl,by simpa [DI] using ho2.set hj0 _,hj0⟩
 have hv4:=hvis
 rw [if_neg h4] at hv4
 have h4f:(o==4)=false:=CZ h4
 have hgo:=hgo h4
 clear key hvis
 by_cases h6:o=6
 · subst h6
   rw [if_pos rfl] at hv4
   cases hc:I8 dt nm with
   |none=>
    rw [hc] at hctr hv4
    simp only [SF] at hctr
    replace hv4:EX fs dt (.mk 6 nm u ns ks al) sc=3:=hv4
    have:=hErr0 (by rw [hv4];decide) σ1 hle1
    rw [hv4] at this
    clear hErr0 hErr hOk hgo
    (repeat' (first|refine Run.ct rfl ?_|((first|refine Run.reg mixed ?_|refine Run.AD ?_|(refine Run.A1 At (AF.le_refl _) ?_)|refine AJ.det (hctr) ?_)<;>try simp -implicitDefEqProofs only [AU,hb1,AA,go_sem])|fail))
    exact this
   |some x=>
    rw [hc] at hctr hv4
    simp only [SF] at hctr hv4
    obtain ⟨d,cc,h1,h2,_⟩:=KO hc
    have har:=NC (s:=[]) h1 h2
    have hd:=ND h1
    have hcc:=NA h2
    have hbn:=TU ks.length cc.args.length
    rw [har] at hv4
    cases hne:(ks.length != cc.args.length) with
    |true=>
     rw [hne] at hbn
     rw [if_pos (by simpa using hne)] at hv4
     have:=hErr0 (by rw [hv4];decide) σ1 hle1
     rw [hv4] at this
     clear hErr0 hErr hOk hgo
     (repeat' (first|refine Run.ct rfl ?_|((first|refine Run.reg mixed ?_|refine Run.AD ?_|(refine Run.A1 At (AF.le_refl _) ?_)|refine AJ.det (hctr) ?_)<;>try simp -implicitDefEqProofs only [AU,hb1,hd,hcc,AA,Dz,hbn,go_sem])|fail))
     exact this
    |false=>
     rw [hne] at hbn
     rw [if_neg (by simpa using hne)] at hv4
     have:=hgo hv4
     clear hErr0 hErr hOk hgo
     (repeat' (first|refine Run.ct rfl ?_|((first|refine Run.reg mixed ?_|refine Run.AD ?_|refine AJ.det (hctr) ?_)<;>try simp -implicitDefEqProofs only [AU,hb1,hd,hcc,AA,Dz,hbn,go_sem])|fail))
     exact this
 rw [if_neg h6] at hv4
 have h6f:(o==6)=false:=CZ h6
 by_cases h8:o=8∨o=11
 · rw [if_pos h8] at hv4
   have hrep:=L4 ns σ1
   cases hB:CC ns with
   |true=>
    rw [hB] at hrep hv4
    rw [if_pos rfl] at hv4
    have:=hErr0 (by rw [hv4];decide) σ1 hle1
    rw [hv4] at this
    clear hErr0 hErr hOk hgo
    rcases h8 with rfl|rfl
    · (repeat' (first|refine Run.ct rfl ?_|((first|refine Run.reg mixed ?_|refine Run.AD ?_|(refine Run.A1 At (AF.le_refl _) ?_)|refine AJ.det (hrep) ?_)<;>try simp -implicitDefEqProofs only [AU,AA,go_sem])|fail))
      exact this
    · (repeat' (first|refine Run.ct rfl ?_|((first|refine Run.reg mixed ?_|refine Run.AD ?_|(refine Run.A1 At (AF.le_refl _) ?_)|refine AJ.det (hrep) ?_)<;>try simp -implicitDefEqProofs only [AU,AA,go_sem])|fail))
      exact this
   |false=>
    rw [hB] at hrep hv4
    rw [if_neg (by simp)] at hv4
    have:=hgo hv4
    clear hErr0 hErr hOk hgo
    rcases h8 with rfl|rfl
    · (repeat' (first|refine Run.ct rfl ?_|((first|refine Run.reg mixed ?_|refine Run.AD ?_|refine AJ.det (hrep) ?_)<;>try simp -implicitDefEqProofs only [AU,AA,go_sem])|fail))
      exact this
    · (repeat' (first|refine Run.ct rfl ?_|((first|refine Run.reg mixed ?_|refine Run.AD ?_|refine AJ.det (hrep) ?_)<;>try simp -implicitDefEqProofs only [AU,AA,go_sem])|fail))
      exact this
 rw [if_neg h8] at hv4
 have h8f:(o==8)=false:=CZ (by omega)
 have h11f:(o==11)=false:=CZ (by omega)
 by_cases h10:o=10
 · rw [if_pos h10] at hv4
   have hal:=aR ps fs dt hdt ((n+1:Nat):Int) uv j al σ1 hgal (hg10 h10) hb1
   subst h10
   by_cases hz:KV dt al=0
   · have:=hgo (hv4.trans hz)
     rw [hz] at hal
     clear hErr0 hErr hOk hgo
     (repeat' (first|refine Run.ct rfl ?_|((first|refine Run.reg mixed ?_|refine Run.AD ?_|refine AJ.det (hal) ?_)<;>try simp -implicitDefEqProofs only [AU,h00,AA,go_sem])|fail))
     exact this
   · have:=hErr0 (by rw [hv4];exact hz) σ1 hle1
     rw [hv4] at this
     have hzb:(KV dt al != 0)=true:=by simpa using hz
     clear hErr0 hErr hOk hgo
     (repeat' (first|refine Run.ct rfl ?_|((first|refine Run.reg mixed ?_|refine Run.AD ?_|(refine Run.A1 At (AF.le_refl _) ?_)|refine AJ.det (hal) ?_)<;>try simp -implicitDefEqProofs only [AU,hzb,AA,go_sem])|fail))
     exact this
 rw [if_neg h10] at hv4
 have h10f:(o==10)=false:=CZ h10
 by_cases h12:o=12
 · rw [if_pos h12] at hv4
   subst h12
   obtain ⟨hd,tl,rfl,hh4⟩:=hg12 rfl
   obtain ⟨xo,xn,xu,xs,xk,xa⟩:=hd
   simp only [Ex.op,Ex.name] at hh4
   replace hv4:EX fs dt (.mk 12 nm u ns (.mk xo xn xu xs xk xa::tl) al) sc=if (decide (xo=4)&& !sc.contains xn)=true then (match Ct (CU fs) xn with|none=>0|some f=>match fs[f]? with|some g=>if g.params.length+1≠tl.length+1 then 5 else 0|none=>0) else 0:=hv4
   have hfi:=hfi xn
   have hfun:=hfun xn
   have hin:=GW sc xn
   by_cases hx4:xo=4
   · subst hx4
     cases hix:Ct sc xn with
     |some q=>
      rw [hix] at hfi hin
      simp only [Ee,Bp] at hfi hin
      rw [← hin] at hv4
      have:=hgo hv4
      simp only [AI,Ex.A7] at this
      clear hErr0 hErr hOk hgo
      (repeat' (first|refine Run.ct rfl ?_|((first|refine Run.reg mixed ?_|refine Run.AD ?_|(refine AJ.mk rfl hfi ?_;rintro _ _ ⟨rfl,rfl⟩))<;>try simp -implicitDefEqProofs only [AU,hslt,AA,AI,Ex.A7,D0,WN,go_sem])|fail))
      exact this
     |none=>
      rw [hix] at hfi hin
      simp only [Ee,CD] at hfi hin
      rw [← hin] at hv4
      have hneg:decide ((-1:Int) < 0)=true:=by decide
      cases hif:Ct (CU fs) xn with
      |none=>
       rw [hif] at hfun hv4
       simp only [Ee] at hfun
       have hnp:decide ((0:Int)≤-1)=false:=by decide
       have:=hgo hv4
       simp only [AI,Ex.A7] at this
       clear hErr0 hErr hOk hgo
       (repeat' (first|refine Run.ct rfl ?_|((first|refine Run.reg mixed ?_|refine Run.AD ?_|(refine AJ.mk rfl hfi ?_;rintro _ _ ⟨rfl,rfl⟩)|refine AJ.det (hfun) ?_)<;>try simp -implicitDefEqProofs only [AU,hneg,hnp,hb1,AA,AI,Ex.A7,D0,WN,go_sem])|fail))
       exact this
      |some f=>
       rw [hif] at hfun hv4
       simp only [Ee] at hfun
       obtain ⟨g,hgf,_⟩:=SJ hif
       have hge:=Ay (enc:=FE.enc) hgf
       simp only [hgf] at hv4
       obtain ⟨gn,gp,go,gn2,gu,gns,gk,ga⟩:=g
       simp only [FE.enc,Ex.A7] at hge
       have hpos:decide ((0:Int)≤(f:Int))=true:=by simp
       have hsub:IntKind.i64.wrap (((tl.length+1:Nat):Int) - 1)=(tl.length:Int):=Io (by simp only [A5] at hlen;omega)
       have hbn:=TU gp.length tl.length
       simp only [C2,Am,decide_true,if_true] at hv4
       cases hne:(gp.length != tl.length) with
       |true=>
        rw [hne] at hbn
        rw [if_pos (by simp only [bne_iff_ne,ne_eq] at hne;omega)] at hv4
        have:=hErr0 (by rw [hv4];decide) σ1 hle1
        rw [hv4] at this
        clear hErr0 hErr hOk hgo
        (repeat' (first|refine Run.ct rfl ?_|((first|refine Run.reg mixed ?_|refine Run.AD ?_|(refine AJ.mk rfl hfi ?_;rintro _ _ ⟨rfl,rfl⟩)|(refine Run.A1 At (AF.le_refl _) ?_)|refine AJ.det (hfun) ?_)<;>try simp -implicitDefEqProofs only [AU,hneg,hpos,hb1,hge,hsub,hbn,A5,AA,AI,Ex.A7,D0,WN,go_sem])|fail))
        exact this
       |false=>
        rw [hne] at hbn
        rw [if_neg (by simp only [bne_eq_false_iff_eq] at hne;omega)] at hv4
        have:=hgo hv4
        simp only [AI,Ex.A7] at this
        clear hErr0 hErr hOk hgo
        (repeat' (first|refine Run.ct rfl ?_|((first|refine Run.reg mixed ?_|refine Run.AD ?_|(refine AJ.mk rfl hfi ?_;rintro _ _ ⟨rfl,rfl⟩)|refine AJ.det (hfun) ?_)<;>try simp -implicitDefEqProofs only [AU,hneg,hpos,hb1,hge,hsub,hbn,A5,AA,AI,Ex.A7,D0,WN,go_sem])|fail))
        exact this
   · rw [decide_eq_false hx4,B1,if_neg (by simp)] at hv4
     have hxf:=CZ hx4
     have:=hgo hv4
     simp only [AI,Ex.A7] at this
     clear hErr0 hErr hOk hgo
     (repeat' (first|refine Run.ct rfl ?_|((first|refine Run.reg mixed ?_|refine Run.AD ?_)<;>try simp -implicitDefEqProofs only [AU,hxf,AA,AI,Ex.A7,D0,WN,go_sem])|fail))
     exact this
 rw [if_neg h12] at hv4
 have h12f:(o==12)=false:=CZ h12
 have:=hgo hv4
 clear hErr0 hErr hOk hgo
 (repeat' (first|refine Run.ct rfl ?_|((first|refine Run.reg mixed ?_|refine Run.AD ?_)<;>try simp -implicitDefEqProofs only [h4f,h6f,h8f,h11f,h10f,h12f,AA,go_sem])|fail))
 exact this
end Go.Ab
