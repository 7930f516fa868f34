/- Components of the reference: the rows. Components of the reference: all rows. Components of the reference: the listing. Components of a graph, in plain data: the first of a group. Conditions: none. -/
import Derived.Test.YtlckhmkeihbhmaaGreatXXp
set_option linter.unusedSimpArgs false
set_option linter.unusedVariables false
set_option maxRecDepth 4000
set_option maxHeartbeats 8000000
open Ne renaming symm→Bs
open List renaming getD_eq_getElem?_getD→BQ,mem_of_getElem?→AT,length_append→AS,length_cons→A5,length_nil→BX,take_of_length_le→AH,getElem?_eq_some_iff→AR,length_map→AA,take→DN,drop→Cs,replicate→AG,length_set→LB,getElem?_set→An,length_filter_le→ER,range→Ae,range_succ→LC,all_append→PX,filter_append→F8,length_range→GG,map_append→Er,ext_getElem?→Dv,getElem?_eq_none→Ao
open Nat renaming mul_one→Ai,zero_add→Ak,le_refl→A0,le_trans→BR
open Bool renaming false_and→B1,not_false→C2,and_true→Am,false_eq_true→AZ,and_self→Ga,not_true→IJ,and_false→B3,eq_iff_iff→Ac,eq_false_iff→Bv
namespace Go.Ab
open Go.Proofs
def ints (W:List Nat):List AV:=W.map fun (w:Nat)=>AV.d (.int .i64 (w:Int))
theorem hH (W:List Nat):(ints W).length=W.length:=by simp [ints]
theorem nL {σ τ:AF} (h:σ.le τ) {j:Nat} (hj:σ.blk j=none):σ.le (τ.Fo j):=
 ⟨fun i c hi=>by
   have:i≠j:=fun e=>by rw [e,hj] at hi;cases hi
   show (if i=j then none else τ.blk i)=some c
   rw [if_neg this];exact h.blk i c hi,h.tok,h.gt,h.bt⟩
theorem Zb (τ:AF) (j i:Nat):(τ.Fo j).blk i=if i=j then none else τ.blk i:=rfl
structure RT (σ:AF) (g:List (List Nat)) (jr i m:Nat) (cells:List AV) (τ:AF):Prop where
 br:τ.blk jr=some cells
 cl:cells.length=g.length
 rows:∀k,k < i→∃jk,cells[k]?=some (.ms jk g.length 1 4)∧τ.blk jk=some (BK (Rh g k))∧jk≠jr
 rest:∀k,m≤k→k < g.length→cells[k]?=some .AY
 le:σ.le τ
 nr:σ.blk jr=none
structure SW (σ:AF) (g:List (List Nat)) (jr i:Nat) (cells:List AV) (ji jw:Nat) (R:List Bool) (W:List Nat) (τ:AF):Prop where
 rt:RT σ g jr i (i+1) cells τ
 il:i < g.length
 ci:cells[i]?=some (.ms ji g.length 1 4)
 bi:τ.blk ji=some (BK R)
 bw:τ.blk jw=some (ints W)
 nir:ji≠jr
 nwr:jw≠jr
 nwi:jw≠ji
 ni:σ.blk ji=none
 nw:σ.blk jw=none
 nki:∀k jk,k < i→cells[k]?=some (.ms jk g.length 1 4)→jk≠ji
 nkw:∀k jk,k < i→cells[k]?=some (.ms jk g.length 1 4)→jk≠jw
theorem SW.set {σ:AF} {g:List (List Nat)} {jr i:Nat} {cells:List AV} {ji jw:Nat} {R:List Bool} {W:List Nat} {τ:AF} (h:SW σ g jr i cells ji jw R W τ) (R':List Bool):SW σ g jr i cells ji jw R' W (τ.AP ji (BK R')):=
 ⟨⟨by rw [AL,if_neg (Bs h.nir)];exact h.rt.br,h.rt.cl,fun k hk=>by
    obtain ⟨jk,h1,h2,h3⟩:=h.rt.rows k hk
    exact ⟨jk,h1,by rw [AL,if_neg (h.nki k jk hk h1)];exact h2,h3⟩,h.rt.rest,C1 h.rt.le h.ni,h.rt.nr⟩,
   h.il,h.ci,by rw [AL,if_pos rfl],by rw [AL,if_neg h.nwi];exact h.bw,h.nir,h.nwr,h.nwi,h.ni,h.nw,h.nki,h.nkw⟩
theorem SW.move {σ:AF} {g:List (List Nat)} {jr i:Nat} {cells:List AV} {ji jw:Nat} {R:List Bool} {W:List Nat} {τ:AF} (h:SW σ g jr i cells ji jw R W τ) {j:Nat} (hj:τ.blk j=none) (W':List Nat):SW σ g jr i cells ji j R W' ((τ.Fo jw).AP j (ints W')):=by
 have hs:∀k x,τ.blk k=some x→k≠jw→((τ.Fo jw).AP j (ints W')).blk k=some x:=fun k x hk hn=>by
  rw [AL,if_neg (fun e=>by rw [e,hj] at hk;cases hk),Zb,if_neg hn];exact hk
 have hjn:=h.rt.le.none hj
 refine ⟨⟨hs _ _ h.rt.br (Bs h.nwr),h.rt.cl,fun k hk=>?_,h.rt.rest,C1 (nL h.rt.le h.nw) hjn,h.rt.nr⟩,
  h.il,h.ci,hs _ _ h.bi (Bs h.nwi),by rw [AL,if_pos rfl],h.nir,fun e=>?_,fun e=>?_,h.ni,hjn,h.nki,fun k jk hk hc e=>?_⟩
 · obtain ⟨jk,h1,h2,h3⟩:=h.rt.rows k hk
   exact ⟨jk,h1,hs _ _ h2 (h.nkw k jk hk h1),h3⟩
 · rw [e,h.rt.br] at hj;cases hj
 · rw [e,h.bi] at hj;cases hj
 · obtain ⟨jk',h1,h2,_⟩:=h.rt.rows k hk
   rw [hc] at h1;cases h1
   rw [e,hj] at h2;cases h2
theorem nS (Q:AV→AF→Prop) (rest:List CI) (g:List (List Nat)) (hg:N2 g) (hgl:g.length≤1000) (jr i v ji:Nat) (l:List Nat) (hl:g[v]?=some l) (hll:l.length≤1000) (σ:AF) (cells:List AV)
 (jw:Nat) (R:List Bool) (W:List Nat) (τ:AF) (hs:SW σ g jr i cells ji jw R W τ) (hw:WkQ g i (some v) [] R W) (hv:Reach g i v) (N:Nat) (hN:2 * unm R+W.length≤N) (hNb:N≤100000)
 (hfin:∀jw R W τ,SW σ g jr i cells ji jw R W τ→WkQ g i none [] R W→2 * unm R+W.length≤N→Run BJ Q rest (put 0 (.d (.sl (g.map Eb))) (put 3 (.d (.int .i64 g.length)) (put 4 (.ms jr g.length 1 78) (put 5 (.d (.int .i64 i)) (put 6 (.ms jw W.length 1 3) (put 58 (.d (.sl (l.map DI))) (put 59 (.d (.int .i64 l.length)) (put 60 (.d (.int .i64 l.length)) (put 61 (.d (.bool false)) U))))))))) E τ):
 Run BJ Q (.code (.loop KY)::.blk 4::rest) (put 0 (.d (.sl (g.map Eb))) (put 3 (.d (.int .i64 g.length)) (put 4 (.ms jr g.length 1 78) (put 5 (.d (.int .i64 i)) (put 6 (.ms jw W.length 1 3) (put 58 (.d (.sl (l.map DI))) (put 59 (.d (.int .i64 l.length)) (put 60 (.d (.int .i64 0)) U)))))))) E τ:=by
 have hgd:g.getD v []=l:=by rw [BQ,hl];rfl
 refine Run.BD ?_
 refine Run.BG ((fun (a0:AV) (a3:AV) (a4:AV) (a5:AV) (a58:AV) (a59:AV)=>fun (y:Nat×Nat×List Bool×List Nat×AF)=>put 0 a0 (put 3 a3 (put 4 a4 (put 5 a5 (put 6 (.ms y.2.1 y.2.2.2.1.length 1 3) (put 58 a58 (put 59 a59 (put 60 (.d (.int .i64 y.1)) U)))))))) _ _ _ _ _ _) (fun _=>E) (fun y=>y.2.2.2.2)
  (fun y=>y.1≤l.length∧SW σ g jr i cells ji y.2.1 y.2.2.1 y.2.2.2.1 y.2.2.2.2∧WkQ g i (some v) (l.take y.1) y.2.2.1 y.2.2.2.1∧2 * unm y.2.2.1+y.2.2.2.1.length≤N) (fun y=>l.length - y.1) ?_ (0,jw,R,W,τ) ⟨by simp,hs,hw,hN⟩
 clear hs hw hN
 rintro ⟨q,jw,R,W,τ⟩ ⟨hq,hs,hw,hN⟩ ih
 simp only at hq hs hw hN
 by_cases hlt:q < l.length
 · obtain ⟨w,hwl⟩:=BC hlt
   have hew:=Ay (enc:=DI) hwl
   rw [Kn] at hew
   have hw1:=A6 (show q+1≤9000000000000000000 by omega)
   have hwm:w∈g.getD v []:=by rw [hgd];exact AT hwl
   have hwn:=hg.at hwm
   obtain ⟨x,hx⟩:=BC (show w < R.length by rw [hw.len];exact hwn)
   have hbx:=DD hx
   have hil:=ilT hs.il
   have hwlt:=ilT hwn
   have htk:=Aw hwl
   cases x with
   |true=>
    (repeat' (first|refine Run.ct rfl ?_|((first|refine Run.reg mixed ?_|refine Run.AD ?_)<;>try simp -implicitDefEqProofs only [A8 hlt,hew,hs.rt.br,hs.ci,hs.bi,hil,hwlt,hbx,hw1,Ai,go_sem])|fail))
    exact ih (q+1,jw,R,W,τ) ⟨by simp only;omega,hs,by simp only;rw [htk];exact hw.old hx,hN⟩ (by simp only;omega)
   |false=>
    have hvR:w < R.length:=by rw [hw.len];exact hwn
    have w1:=MF true hvR
    have d1:=OJ hvR
    have hs1:=hs.set (R.set w true)
    have hu:=Xs hx
    (repeat' (first|refine Run.ct rfl ?_|((first|refine Run.reg mixed ?_|refine Run.AD ?_|(refine W7.mk (n:=W.length) (cs:=ints W) (srows:=[[.int .i64 w]]) (σ1:=(τ.AP ji (BK (R.set w true))).Fo jw) (by simp [KW,hs1.bw,hH]) rfl (by simp) (by simp) (by simp;omega) (by decide) (fun j hj=>?_)))<;>try simp -implicitDefEqProofs only [A8 hlt,hew,hs.rt.br,hs.ci,hs.bi,hil,hwlt,hbx,hw1,w1,d1,Ai,go_sem])|fail))
    have hs2:=hs1.move hj (W++[w])
    have hni:ints W++FC [[DV.int .i64 w]]=ints (W++[w]):=by simp [ints,FC]
    rw [hni]
    (repeat' (first|refine Run.ct rfl ?_|((first|refine Run.reg mixed ?_|refine Run.AD ?_)<;>try simp -implicitDefEqProofs only [hw1,go_sem])|fail))
    have:=ih (q+1,j,R.set w true,W++[w],_) ⟨by simp only;omega,hs2,by simp only;rw [htk];exact hw.new hwn (hv.trans (Reach.one hwm)),by simp only [AS,A5,BX];omega⟩ (by simp only;omega)
    simp only [AS,A5,BX,Ak] at this
    exact this
 · have hqe:q=l.length:=by omega
   subst hqe
   rw [AH (A0 _),← hgd] at hw
   have:=hfin jw R W τ hs hw.close hN
   (repeat' (first|refine Run.ct rfl ?_|((first|refine Run.reg mixed ?_|refine Run.AD ?_)<;>try simp -implicitDefEqProofs only [Bd hlt,go_sem])|fail))
   exact this
theorem nT (Q:AV→AF→Prop) (rest:List CI) (g:List (List Nat)) (hg:N2 g) (hgl:g.length≤1000) (hll:∀l∈g,l.length≤1000) (jr i ji:Nat) (σ:AF) (cells:List AV)
 (jw:Nat) (R:List Bool) (W:List Nat) (τ:AF) (hs:SW σ g jr i cells ji jw R W τ) (hw:WkQ g i none [] R W) (hN:2 * unm R+W.length≤5000)
 (hfin:∀jw τ,SW σ g jr i cells ji jw (Rh g i) [] τ→Run BJ Q rest (put 0 (.d (.sl (g.map Eb))) (put 3 (.d (.int .i64 g.length)) (put 4 (.ms jr g.length 1 78) (put 5 (.d (.int .i64 i)) (put 6 (.ms jw 0 1 3) (put 43 (.d (.bool false)) U)))))) E τ):
 Run BJ Q (.code (.loop KZ)::.blk 2::rest) (put 0 (.d (.sl (g.map Eb))) (put 3 (.d (.int .i64 g.length)) (put 4 (.ms jr g.length 1 78) (put 5 (.d (.int .i64 i)) (put 6 (.ms jw W.length 1 3) U))))) E τ:=by
 refine Run.BD ?_
 refine Run.BG ((fun (a0:AV) (a3:AV) (a4:AV) (a5:AV)=>fun (y:Nat×List Bool×List Nat×AF)=>put 0 a0 (put 3 a3 (put 4 a4 (put 5 a5 (put 6 (.ms y.1 y.2.2.1.length 1 3) U))))) _ _ _ _) (fun _=>E) (fun y=>y.2.2.2)
  (fun y=>SW σ g jr i cells ji y.1 y.2.1 y.2.2.1 y.2.2.2∧WkQ g i none [] y.2.1 y.2.2.1∧2 * unm y.2.1+y.2.2.1.length≤5000) (fun y=>2 * unm y.2.1+y.2.2.1.length) ?_ (jw,R,W,τ) ⟨hs,hw,hN⟩
 clear hs hw hN
 rintro ⟨jw,R,W,τ⟩ ⟨hs,hw,hN⟩ ih
 simp only at hs hw hN
 rcases List.eq_nil_or_concat W with rfl|⟨W0,v,rfl⟩
 · have hR:=hw.fin
   subst hR
   have h0:decide ((0:Int)>0)=false:=by decide
   have:=hfin jw τ hs
   (repeat' (first|refine Run.ct rfl ?_|((first|refine Run.reg mixed ?_|refine Run.AD ?_)<;>try simp -implicitDefEqProofs only [BX,h0,go_sem])|(refine ⟨fun h=>?_,fun h=>?_⟩<;>first|(cases h;done)|try simp only [h])|fail))
   exact this
 · simp only [List.concat_eq_append] at hs hw hN ih ⊢
   obtain ⟨hp,hv⟩:=hw.pop
   have hrv:=hp.sound v hv
   have hvl:v < g.length:=by rw [← hw.len];exact (AR.1 hv).1
   obtain ⟨l,hl⟩:=BC hvl
   have hel:=Ay (enc:=Eb) hl
   rw [VM] at hel
   have hlm:=hll l (AT hl)
   have hlen:(W0++[v]).length=W0.length+1:=by simp
   rw [hlen] at hN
   have hw0:IntKind.i64.wrap (((W0.length+1:Nat):Int) - 1)=(W0.length:Int):=by
    rw [show ((W0.length+1:Nat):Int) - 1=(W0.length:Int) by omega]
    exact jS (by omega)
   have hgt:decide (((W0.length+1:Nat):Int)>0)=true:=by simp
   have hiw:(ints (W0++[v]))[W0.length]?=some (AV.d (.int .i64 (v:Int))):=by simp [ints]
   have hWl:=ilT (show W0.length < W0.length+1 by omega)
   (repeat' (first|refine Run.ct rfl ?_|((first|refine Run.reg mixed ?_|refine Run.AD ?_|(refine ⟨W0.length,1,3,ints W0,τ.Fo jw,(by simp [lO,Of,hs.bw,hlen,ints]),fun j hj=>?_⟩))<;>try simp -implicitDefEqProofs only [hlen,hgt,hw0,hs.bw,hiw,hWl,hel,AA,Ai,go_sem])|fail))
   have hs2:=hs.move hj W0
   refine nS Q _ g hg hgl jr i v ji l hl hlm σ cells j R W0 _ hs2 hp hrv (2 * unm R+W0.length) (A0 _) (by omega) (fun jw R2 W2 τ2 hs3 hw3 hN3=>?_)
   (repeat' (first|refine Run.ct rfl ?_|((first|refine Run.reg mixed ?_|refine Run.AD ?_)<;>try simp -implicitDefEqProofs only [go_sem])|fail))
   refine Run.Jr [0,3,4,5,6] ?_;simp -implicitDefEqProofs only [go_sem]
   exact ih (jw,R2,W2,τ2) ⟨hs3,hw3,by simp only;omega⟩ (by simp only [hlen];omega)
end Go.Ab
namespace Go.Ab
open Go.Proofs
theorem RT.fresh {σ τ:AF} {g:List (List Nat)} {jr i m:Nat} {cells:List AV} (h:RT σ g jr i m cells τ) {j:Nat} (hj:τ.blk j=none):j≠jr∧σ.blk j=none∧∀k jk,k < i→cells[k]?=some (.ms jk g.length 1 4)→jk≠j:=
 ⟨fun e=>(by rw [e,h.br] at hj;cases hj),h.le.none hj,fun k jk hk hc e=>by
   obtain ⟨jk',h1,h2,_⟩:=h.rows k hk
   rw [hc] at h1;cases h1
   rw [e,hj] at h2;cases h2⟩
theorem nU (Q:AV→AF→Prop) (rest:List CI) (g:List (List Nat)) (hg:N2 g) (hgl:g.length≤1000) (hll:∀l∈g,l.length≤1000) (jr:Nat) (σ τ:AF) (cells:List AV) (h:RT σ g jr 0 0 cells τ)
 (hfin:∀cells τ,RT σ g jr g.length g.length cells τ→Run BJ Q rest (put 0 (.d (.sl (g.map Eb))) (put 3 (.d (.int .i64 g.length)) (put 4 (.ms jr g.length 1 78) (put 5 (.d (.int .i64 g.length)) (put 25 (.d (.bool false)) U))))) E τ):
 Run BJ Q (.code (.loop K0)::.blk 0::rest) (put 0 (.d (.sl (g.map Eb))) (put 3 (.d (.int .i64 g.length)) (put 4 (.ms jr g.length 1 78) (put 5 (.d (.int .i64 0)) U)))) E τ:=by
 refine Run.BD ?_
 refine Run.BG ((fun (a0:AV) (a3:AV) (a4:AV)=>fun (y:Nat×List AV×AF)=>put 0 a0 (put 3 a3 (put 4 a4 (put 5 (.d (.int .i64 y.1)) U)))) _ _ _) (fun _=>E) (fun y=>y.2.2)
  (fun y=>y.1≤g.length∧RT σ g jr y.1 y.1 y.2.1 y.2.2) (fun y=>g.length - y.1) ?_ (0,cells,τ) ⟨by simp,h⟩
 clear h
 rintro ⟨i,cells,τ⟩ ⟨hi,h⟩ ih
 simp only at hi h
 by_cases hlt:i < g.length
 · have hw1:=A6 (show i+1≤9000000000000000000 by omega)
   have hil:=ilT hlt
   have hil2:(i+1≤cells.length)=True:=by rw [h.cl];simp;omega
   have hwr:∀x:AV,DN i cells++[x]++Cs (i+1) cells=cells.set i x:=fun x=>wr1 x (by rw [h.cl];exact hlt)
   (repeat' (first|refine Run.ct rfl ?_|((first|refine Run.reg mixed ?_|refine Run.AD ?_|(refine Qx.mk (n:=g.length) (by omega) (by omega) (fun ji hji=>?_)))<;>try simp -implicitDefEqProofs only [A8 hlt,go_sem])|fail))
   rw [KM]
   obtain ⟨f1,f2,f3⟩:=h.fresh hji
   have hbr:=Cz h.br hji (BK (AG g.length false))
   have hbi:(τ.AP ji (BK (AG g.length false))).blk ji=some (BK (AG g.length false)):=by rw [AL,if_pos rfl]
   have hrt:RT σ g jr i (i+1) (cells.set i (.ms ji g.length 1 4)) ((τ.AP ji (BK (AG g.length false))).AP jr (cells.set i (.ms ji g.length 1 4))):=by
    refine ⟨by rw [AL,if_pos rfl],by rw [LB];exact h.cl,fun k hk=>?_,fun k hk hkl=>?_,C1 (C1 h.le f2) h.nr,h.nr⟩
    · obtain ⟨jk,g1,g2,g3⟩:=h.rows k hk
      exact ⟨jk,by rw [An,if_neg (by omega)];exact g1,by rw [AL,if_neg g3];exact Cz g2 hji _,g3⟩
    · rw [An,if_neg (by omega)];exact h.rest k (by omega) hkl
   have hbi2:((τ.AP ji (BK (AG g.length false))).AP jr (cells.set i (.ms ji g.length 1 4))).blk ji=some (BK (AG g.length false)):=by rw [AL,if_neg f1];exact hbi
   simp -implicitDefEqProofs only [hbr,hil,hil2,hwr,Ai,go_sem]
   generalize (τ.AP ji (BK (AG g.length false))).AP jr (cells.set i (.ms ji g.length 1 4))=τ2 at hrt hbi2 ⊢
   have hci:(cells.set i (AV.ms ji g.length 1 4))[i]?=some (.ms ji g.length 1 4):=by rw [An,if_pos rfl,if_pos (by rw [h.cl];exact hlt)]
   have hnk:∀k jk,k < i→(cells.set i (AV.ms ji g.length 1 4))[k]?=some (.ms jk g.length 1 4)→jk≠ji:=fun k jk hk hc=>by
    rw [An,if_neg (by omega)] at hc;exact f3 k jk hk hc
   generalize cells.set i (AV.ms ji g.length 1 4)=cells2 at hrt hci hnk ⊢
   clear hbr hbi hil2 hwr h hji f3
   (repeat' (first|refine Run.ct rfl ?_|((first|refine Run.reg mixed ?_|refine Run.AD ?_|(refine Pl.mk (fun jw hjw=>?_)))<;>try simp -implicitDefEqProofs only [go_sem])|fail))
   have hint:[AV.d (.int .i64 (i:Int))]=ints [i]:=rfl
   obtain ⟨e1,e2,e3⟩:=hrt.fresh hjw
   have e4:jw≠ji:=fun e=>by rw [e,hbi2] at hjw;cases hjw
   have hbr3:=Cz hrt.br hjw (ints [i])
   have hbi3:=Cz hbi2 hjw (ints [i])
   have hvR:i < (AG g.length false).length:=by simp;exact hlt
   have w1:=MF true hvR
   have d1:=OJ hvR
   rw [hint]
   have hsw0:SW σ g jr i cells2 ji jw (AG g.length false) [i] (τ2.AP jw (ints [i])):=
    ⟨⟨hbr3,hrt.cl,fun k hk=>by
      obtain ⟨jk,g1,g2,g3⟩:=hrt.rows k hk
      exact ⟨jk,g1,Cz g2 hjw _,g3⟩,hrt.rest,C1 hrt.le e2,hrt.nr⟩,hlt,hci,hbi3,by rw [AL,if_pos rfl],f1,e1,e4,f2,e2,hnk,e3⟩
   have hsw:=hsw0.set ((AG g.length false).set i true)
   have hun:unm ((AG g.length false).set i true)≤g.length:=by
    unfold unm
    exact BR (ER _ _) (by simp)
   simp -implicitDefEqProofs only [hil,hbr3,hci,hbi3,w1,d1,Ai,go_sem]
   (repeat' (first|refine Run.ct rfl ?_|((first|refine Run.reg mixed ?_|refine Run.AD ?_)<;>try simp -implicitDefEqProofs only [go_sem])|fail))
   refine nT Q _ g hg hgl hll jr i ji σ cells2 jw _ [i] _ hsw (WkQ.start hlt) (by simp only [A5,BX];omega) (fun jw2 τ3 hs3=>?_)
   (repeat' (first|refine Run.ct rfl ?_|((first|refine Run.reg mixed ?_|refine Run.AD ?_)<;>try simp -implicitDefEqProofs only [hw1,go_sem])|fail))
   refine ih (i+1,cells2,τ3) ⟨by simp only;omega,hs3.rt.br,hs3.rt.cl,fun k hk=>?_,hs3.rt.rest,hs3.rt.le,hs3.rt.nr⟩ (by simp only;omega)
   by_cases hki:k=i
   · subst hki
     exact ⟨ji,hci,hs3.bi,f1⟩
   · exact hs3.rt.rows k (by simp only at hk;omega)
 · have hie:i=g.length:=by omega
   subst hie
   have:=hfin cells τ h
   (repeat' (first|refine Run.ct rfl ?_|((first|refine Run.reg mixed ?_|refine Run.AD ?_)<;>try simp -implicitDefEqProofs only [Bd hlt,go_sem])|fail))
   exact this
end Go.Ab
namespace Go.Ab
open Go.Proofs
theorem RT.tok {σ τ τ':AF} {g:List (List Nat)} {jr i m:Nat} {cells:List AV} (h:RT σ g jr i m cells τ) (hb:∀q,τ'.blk q=τ.blk q) (hle:σ.le τ'):RT σ g jr i m cells τ':=
 ⟨(hb jr).trans h.br,h.cl,fun k hk=>by
   obtain ⟨jk,h1,h2,h3⟩:=h.rows k hk
   exact ⟨jk,h1,(hb jk).trans h2,h3⟩,h.rest,hle,h.nr⟩
theorem RT.at {σ τ:AF} {g:List (List Nat)} {jr:Nat} {cells:List AV} (h:RT σ g jr g.length g.length cells τ) {i:Nat} (hi:i < g.length):∃ji,cells[i]?=some (.ms ji g.length 1 4)∧τ.blk ji=some (BK (Rh g i)):=by
 obtain ⟨ji,h1,h2,_⟩:=h.rows i hi
 exact ⟨ji,h1,h2⟩
structure LT (σ:AF) (g:List (List Nat)) (jr jl:Nat) (cells:List AV) (ls:List Bool) (τ:AF):Prop where
 rt:RT σ g jr g.length g.length cells τ
 bl:τ.blk jl=some (BK ls)
 ll:ls.length=g.length
 nl:σ.blk jl=none
 nr:jl≠jr
 nk:∀k jk,k < g.length→cells[k]?=some (.ms jk g.length 1 4)→jk≠jl
theorem LT.set {σ:AF} {g:List (List Nat)} {jr jl:Nat} {cells:List AV} {ls:List Bool} {τ:AF} (h:LT σ g jr jl cells ls τ) (ls':List Bool) (hl:ls'.length=g.length):LT σ g jr jl cells ls' (τ.AP jl (BK ls')):=
 ⟨⟨by rw [AL,if_neg (Bs h.nr)];exact h.rt.br,h.rt.cl,fun k hk=>by
    obtain ⟨jk,h1,h2,h3⟩:=h.rt.rows k hk
    exact ⟨jk,h1,by rw [AL,if_neg (h.nk k jk hk h1)];exact h2,h3⟩,h.rt.rest,C1 h.rt.le h.nl,h.rt.nr⟩,
   by rw [AL,if_pos rfl],hl,h.nl,h.nr,h.nk⟩
theorem LT.tok {σ:AF} {g:List (List Nat)} {jr jl:Nat} {cells:List AV} {ls:List Bool} {τ τ':AF} (h:LT σ g jr jl cells ls τ) (hb:∀q,τ'.blk q=τ.blk q) (hle:σ.le τ'):LT σ g jr jl cells ls τ':=
 ⟨h.rt.tok hb hle,(hb jl).trans h.bl,h.ll,h.nl,h.nr,h.nk⟩
noncomputable def e9 (g:List (List Nat)) (ls:List Bool) (i k:Nat):Bool:=(Ae k).all fun j=>!((rB g i j&& !rB g j i)&& !lsB ls j)
theorem fB (g:List (List Nat)) (ls:List Bool) (i k:Nat):e9 g ls i (k+1)=(e9 g ls i k&& !((rB g i k&& !rB g k i)&& !lsB ls k)):=by
 rw [e9,LC,PX];simp [e9]
theorem nV (Q:AV→AF→Prop) (rest:List CI) (g:List (List Nat)) (hgl:g.length≤1000) (jr jl:Nat) (σ τ:AF) (cells:List AV) (ls:List Bool) (h:LT σ g jr jl cells ls τ) (i:Nat) (hi:i < g.length) (outv:AV) (orows:List (List DV)) (ho:F1 σ [⟨35,1,orows,outv⟩] τ)
 (hfin:∀gv τ',LT σ g jr jl cells ls τ'→F1 σ [⟨3,1,(Gb g i).map DI,gv⟩,⟨35,1,orows,outv⟩] τ'→Run BJ Q rest (put 3 (.d (.int .i64 g.length)) (put 4 (.ms jr g.length 1 78) (put 10 (.ms jl g.length 1 4) (put 11 outv (put 12 (.d (.bool false)) (put 13 (.d (.int .i64 i)) (put 14 gv (put 15 (.d (.bool (S9 g ls i))) (put 16 (.d (.int .i64 g.length)) (put 100 (.d (.bool false)) U)))))))))) E τ'):
 Run BJ Q (.code (.loop K1)::.blk 10::rest) (put 3 (.d (.int .i64 g.length)) (put 4 (.ms jr g.length 1 78) (put 10 (.ms jl g.length 1 4) (put 11 outv (put 12 (.d (.bool false)) (put 13 (.d (.int .i64 i)) (put 14 .AY (put 15 (.d (.bool true)) (put 16 (.d (.int .i64 0)) U))))))))) E τ:=by
 have hol:=fun k=>ho.head.Ar k
 simp only at hol
 have hil:=ilT hi
 refine Run.BD ?_
 refine Run.BG ((fun (a3:AV) (a4:AV) (a10:AV) (a11:AV) (a12:AV) (a13:AV)=>fun (y:Nat×AV×AF)=>put 3 a3 (put 4 a4 (put 10 a10 (put 11 a11 (put 12 a12 (put 13 a13 (put 14 (y.2.1) (put 15 (.d (.bool (e9 g ls i y.1))) (put 16 (.d (.int .i64 y.1)) U))))))))) _ _ _ _ _ _) (fun _=>E) (fun y=>y.2.2)
  (fun y=>y.1≤g.length∧LT σ g jr jl cells ls y.2.2∧F1 σ [⟨3,1,((Ae y.1).filter (EP g i)).map DI,y.2.1⟩,⟨35,1,orows,outv⟩] y.2.2) (fun y=>g.length - y.1) ?_ (0,.AY,τ) ⟨by simp,h,ho.nil h.rt.le _ _⟩
 rintro ⟨j,gv,τ⟩ ⟨hj,hL,hO⟩ ih
 simp only at hj hL hO
 have hgo:=hO.head
 simp only at hgo
 by_cases hlt:j < g.length
 · obtain ⟨ji,hci,hbi⟩:=hL.rt.at hi
   obtain ⟨jj,hcj,hbj⟩:=hL.rt.at hlt
   have hjl:=ilT hlt
   have hw1:=A6 (show j+1≤9000000000000000000 by omega)
   have e1:=DD (M9 (i:=i) hlt)
   have e2:=DD (M9 (i:=j) hi)
   obtain ⟨bl,hbl⟩:=BC (show j < ls.length by rw [hL.ll];omega)
   have e3:=DD hbl
   rw [← KF hbl] at e3
   have hfs:(Ae (j+1)).filter (EP g i)=if EP g i j then (Ae j).filter (EP g i)++[j] else (Ae j).filter (EP g i):=by
    rw [LC,F8]
    cases hm:EP g i j<;>simp [hm]
   have hih:=fun gv' τ' h1 h2=>ih (j+1,gv',τ') ⟨by simp only;omega,h1,h2⟩ (by simp only;omega)
   simp only at hih
   rw [fB,hfs] at hih
   cases c1:rB g i j with
   |false=>
    have hm:EP g i j=false:=by simp [EP,c1]
    rw [c1] at e1
    rw [hm,c1] at hih
    simp only [B1,C2,Am,AZ,if_false] at hih
    (repeat' (first|refine Run.ct rfl ?_|((first|refine Run.reg mixed ?_|refine Run.AD ?_)<;>try simp -implicitDefEqProofs only [A8 hlt,hL.rt.br,hci,hbi,hcj,hbj,hil,hjl,e1,hw1,Ai,hol,hgo.Ar,go_sem])|fail))
    exact hih _ _ hL hO
   |true=>
   rw [c1] at e1
   cases c2:rB g j i with
   |false=>
    have hm:EP g i j=false:=by simp [EP,c2]
    rw [c2] at e2
    rw [hm,c1,c2] at hih
    cases c3:lsB ls j with
    |true=>
     rw [c3] at e3
     rw [c3] at hih
     simp only [Ga,C2,IJ,B3,Am,AZ,if_false] at hih
     (repeat' (first|refine Run.ct rfl ?_|((first|refine Run.reg mixed ?_|refine Run.AD ?_)<;>try simp -implicitDefEqProofs only [A8 hlt,hL.rt.br,hL.bl,hci,hbi,hcj,hbj,hil,hjl,e1,e2,e3,hw1,Ai,hol,hgo.Ar,go_sem])|fail))
     exact hih _ _ hL hO
    |false=>
     rw [c3] at e3
     rw [c3] at hih
     simp only [Ga,C2,IJ,B3,Am,AZ,if_false] at hih
     (repeat' (first|refine Run.ct rfl ?_|((first|refine Run.reg mixed ?_|refine Run.AD ?_)<;>try simp -implicitDefEqProofs only [A8 hlt,hL.rt.br,hL.bl,hci,hbi,hcj,hbj,hil,hjl,e1,e2,e3,hw1,Ai,hol,hgo.Ar,go_sem])|fail))
     exact hih _ _ hL hO
   |true=>
    have hm:EP g i j=true:=by simp [EP,c1,c2]
    rw [c2] at e2
    rw [hm,c1,c2] at hih
    simp only [if_true,Ga,C2,IJ,B3,B1,Am] at hih
    have hflen:(((Ae j).filter (EP g i)).map DI).length≤1000:=by
     have:=ER (EP g i) (Ae j)
     rw [GG] at this
     rw [AA];omega
    (repeat' (first|refine Run.ct rfl ?_|((first|refine Run.reg mixed ?_|refine Run.AD ?_|(refine Dy.aE (cx:=BJ) hO rfl (by simp) (by simp only [A5,BX];omega) (by decide) (fun v2 τ2 ho2 hbk=>?_)))<;>try simp -implicitDefEqProofs only [A8 hlt,hL.rt.br,hL.bl,hci,hbi,hcj,hbj,hil,hjl,e1,e2,hw1,Ai,hol,hgo.Ar,go_sem])|fail))
    have hL2:=hL.tok hbk ho2.head.le
    have h2l:=ho2.head.Ar
    simp only at h2l
    (repeat' (first|refine Run.ct rfl ?_|((first|refine Run.reg mixed ?_|refine Run.AD ?_)<;>try simp -implicitDefEqProofs only [hw1,hol,h2l,go_sem])|fail))
    exact hih _ _ hL2 (by rw [Er];exact ho2)
 · have hje:j=g.length:=by omega
   subst hje
   have:=hfin gv τ hL hO
   rw [show S9 g ls i=e9 g ls i g.length from rfl] at this
   (repeat' (first|refine Run.ct rfl ?_|((first|refine Run.reg mixed ?_|refine Run.AD ?_)<;>try simp -implicitDefEqProofs only [Bd hlt,hol,hgo.Ar,go_sem])|fail))
   exact this
end Go.Ab
namespace Go.Ab
def Tq (ls:List Bool) (vs:List Nat):List Bool:=vs.foldl (fun l v=>l.set v true) ls
theorem fE (ls:List Bool) (vs:List Nat) (v:Nat):Tq ls (vs++[v])=(Tq ls vs).set v true:=by simp [Tq]
theorem V2:∀(vs:List Nat) (ls:List Bool),(Tq ls vs).length=ls.length
 |[],_=>rfl
 |v::vs,ls=>by rw [Tq,List.foldl_cons];exact (V2 vs _).trans (by simp)
theorem k9 (ls:List Bool) {v k:Nat} (hk:k < ls.length):lsB (ls.set v true) k=(lsB ls k||decide (k=v)):=by
 rw [lsB,lsB,BQ,BQ,An]
 by_cases h:v=k
 · subst h;simp [hk]
 · have:¬k=v:=fun e=>h e.symm
   simp [h,this]
theorem Yw:∀(vs:List Nat) (ls:List Bool) {k:Nat},k < ls.length→lsB (Tq ls vs) k=(lsB ls k||decide (k∈vs))
 |[],ls,k,_=>by simp [Tq]
 |v::vs,ls,k,hk=>by
  have:=Yw vs (ls.set v true) (k:=k) (by simpa using hk)
  rw [k9 ls hk] at this
  rw [Tq,List.foldl_cons]
  rw [Tq] at this
  rw [this,Bool.or_assoc]
  congr 1
  by_cases h1:k=v<;>by_cases h2:k∈vs<;>simp [h1,h2]
theorem iG {ls:List Bool} {k:Nat} (hk:k < ls.length):ls[k]?=some (lsB ls k):=by
 have h:ls[k]?=some ls[k]:=by simp [hk]
 rw [KF h,h]
theorem jE {g:List (List Nat)} {ls:List Bool} (h:ls.length=g.length) (i:Nat):Tq ls (Gb g i)=NP g i ls:=by
 apply Dv
 intro k
 by_cases hk:k < g.length
 · rw [iG (by rw [V2,h];exact hk),Yw _ _ (by rw [h];exact hk),NP,JR g i ls _ hk]
   congr 2
   rw [Ac]
   simp [Gb,hk]
 · rw [Ao (by rw [V2];omega),Ao (by rw [NP,Hs];omega)]
theorem Uv {g:List (List Nat)} {a b:Nat}:EP g a b=true↔Reach g a b∧Reach g b a:=by simp [EP,Oj]
theorem eN {g:List (List Nat)} {a b:Nat} (h:EP g a b=true):EP g b a=true:=by
 rw [Uv] at h ⊢;exact ⟨h.2,h.1⟩
theorem Uw {g:List (List Nat)} {a b c:Nat} (h:EP g a b=true) (k:EP g b c=true):EP g a c=true:=by
 rw [Uv] at h k ⊢;exact ⟨h.1.trans k.1,k.2.trans h.2⟩
def Cls (g:List (List Nat)) (ls:List Bool):Prop:=∀a b,a < g.length→b < g.length→EP g a b=true→lsB ls a=lsB ls b
theorem Cls.start (g:List (List Nat)):Cls g (AG g.length false):=fun a b ha hb _=>by
 have h:∀k,k < g.length→lsB (AG g.length false) k=false:=fun k hk=>KF (by simp [hk])
 rw [h a ha,h b hb]
theorem bX {g:List (List Nat)} {i:Nat} {ls:List Bool} {k:Nat} (hk:k < g.length):lsB (NP g i ls) k=(lsB ls k||EP g i k):=by
 have:=KF (JR g i ls g.length hk)
 rw [NP,this];simp [hk]
theorem Cls.mrk {g:List (List Nat)} {ls:List Bool} (h:Cls g ls) (i:Nat):Cls g (NP g i ls):=fun a b ha hb hm=>by
 rw [bX ha,bX hb,h a b ha hb hm]
 congr 1
 rw [Ac]
 exact ⟨fun k=>Uw k hm,fun k=>Uw k (eN hm)⟩
theorem lJ {g:List (List Nat)} {ls:List Bool} {a b:Nat} (h:EP g a b=true):S9 g ls a=S9 g ls b:=by
 rw [Uv] at h
 have h1:∀k,rB g a k=rB g b k:=fun k=>by
  rw [Ac,Oj,Oj];exact ⟨fun x=>h.2.trans x,fun x=>h.1.trans x⟩
 have h2:∀k,rB g k a=rB g k b:=fun k=>by
  rw [Ac,Oj,Oj];exact ⟨fun x=>x.trans h.1,fun x=>x.trans h.2⟩
 simp only [S9,h1,h2]
theorem gZ {g:List (List Nat)} {ls:List Bool} {i:Nat} (hc:Cls g ls) (hi:i < g.length) (hcan:Lh g ls i=true) (hno:∀k,k < i→Lh g ls k=false):(Gb g i)[0]?=some i:=by
 have hp:∀k,k < i→EP g i k=false:=fun k hk=>by
  rw [Bv]
  intro hm
  have h1:Lh g ls k=Lh g ls i:=by
   rw [Lh,Lh,lJ hm,hc i k hi (by omega) hm]
  have h2:=hno k hk
  rw [h1,hcan] at h2
  cases h2
 have:=XV hi (Wo g i) hp
 rw [← List.head?_eq_getElem?,Gb,List.head?_filter]
 exact this
end Go.Ab
