/- Components of a graph, in plain data: what a search marks. Components: the search. Components: the rows of reach. Components of a graph, in plain data: the groups in their order. Several owned slices side by side. Several owned slices, as a list. Conditions: none. -/
import Derived.Test.YtlckhmkeihbhmaaGreatXVr
set_option linter.unusedSimpArgs false
set_option linter.unusedVariables false
set_option maxRecDepth 4000
set_option maxHeartbeats 8000000
open List renaming getD_eq_getElem?_getD→BQ,mem_of_getElem?→AT,range→Ae,getElem?_set→An,mem_append→A3,replicate→AG,ext_getElem?→Dv,getElem?_map→Ah,getElem?_range→C8,getElem?_eq_none→Ao,take→DN,drop→Cs,length_cons→A5,length_nil→BX,getElem?_eq_some_iff→AR,length_map→AA,take_of_length_le→AH,length_set→LB,mem_range→F9,mem_cons_self→BT,mem_cons_of_mem→B8,pairwise_cons→H7,mem_cons→Bf
open Option renaming map_some→Bn
open Bool renaming eq_iff_iff→Ac
open Nat renaming le_refl→A0,zero_add→Ak,mul_one→Ai,mul_le_mul→MD
open Ne renaming symm→Bs
open Option.some renaming injEq→AK
namespace Go.Ab
inductive Reach (g:List (List Nat)):Nat→Nat→Prop
 |refl (v:Nat):Reach g v v
 |step {v w k:Nat} (h:w∈g.getD v []) (hr:Reach g w k):Reach g v k
theorem Reach.trans {g:List (List Nat)} {a b c:Nat} (h:Reach g a b) (k:Reach g b c):Reach g a c:=by
 induction h with
 |refl=>exact k
 |step h _ ih=>exact .step h (ih k)
theorem Reach.one {g:List (List Nat)} {a b:Nat} (h:b∈g.getD a []):Reach g a b:= .step h (.refl b)
def N2 (g:List (List Nat)):Prop:=∀l∈g,∀w∈l,w < g.length
theorem N2.at {g:List (List Nat)} (h:N2 g) {v w:Nat} (hw:w∈g.getD v []):w < g.length:=by
 rw [BQ] at hw
 cases hv:g[v]? with
 |none=>rw [hv] at hw;simp at hw
 |some l=>rw [hv] at hw;exact h l (AT hv) w hw
theorem Reach.lt {g:List (List Nat)} (he:N2 g) {a b:Nat} (h:Reach g a b) (ha:a < g.length):b < g.length:=by
 induction h with
 |refl=>exact ha
 |step h _ ih=>exact ih (he.at h)
open Classical in
noncomputable def rB (g:List (List Nat)) (i k:Nat):Bool:=decide (Reach g i k)
theorem Oj {g:List (List Nat)} {i k:Nat}:rB g i k=true↔Reach g i k:=by simp [rB]
noncomputable def Rh (g:List (List Nat)) (i:Nat):List Bool:=(Ae g.length).map (rB g i)
structure ZL (g:List (List Nat)) (v:Nat) (R R':List Bool):Prop where
 len:R'.length=R.length
 mono:∀k:Nat,R[k]?=some true→R'[k]?=some true
 self:R'[v]?=some true
 new:∀k:Nat,R'[k]?=some true→R[k]?=some true∨(Reach g v k∧∀w∈g.getD k [],R'[w]?=some true)
theorem ZL.skip {g:List (List Nat)} {v:Nat} {R:List Bool} (h:R[v]?=some true):ZL g v R R:=⟨rfl,fun _ h=>h,h,fun _ h=>.inl h⟩
structure XI (g:List (List Nat)) (v:Nat) (ws:List Nat) (R R':List Bool):Prop where
 len:R'.length=R.length
 mono:∀k:Nat,R[k]?=some true→R'[k]?=some true
 self:R'[v]?=some true
 done:∀w∈ws,R'[w]?=some true
 new:∀k:Nat,R'[k]?=some true→R[k]?=some true∨k=v∨(Reach g v k∧∀w∈g.getD k [],R'[w]?=some true)
theorem XI.start {g:List (List Nat)} {v:Nat} {R:List Bool} (h:v < R.length):XI g v [] R (R.set v true):=by
 refine ⟨by simp,fun k hk=>?_,by simp [h],by simp,fun k hk=>?_⟩
 · rw [An]
   split
   · rename_i e;subst e;simp [h]
   · exact hk
 · rw [An] at hk
   split at hk
   · rename_i e;exact .inr (.inl e.symm)
   · exact .inl hk
theorem XI.next {g:List (List Nat)} {v w:Nat} {ws:List Nat} {R R1 R2:List Bool} (h:XI g v ws R R1) (hw:w∈g.getD v []) (k:ZL g w R1 R2):XI g v (ws++[w]) R R2:=by
 refine ⟨k.len.trans h.len,fun q hq=>k.mono q (h.mono q hq),k.mono v h.self,fun x hx=>?_,fun q hq=>?_⟩
 · rcases A3.1 hx with hx|hx
   · exact k.mono x (h.done x hx)
   · simp at hx;subst hx;exact k.self
 · rcases k.new q hq with h1|⟨h1,h2⟩
   · rcases h.new q h1 with h3|h3|⟨h3,h4⟩
     · exact .inl h3
     · exact .inr (.inl h3)
     · exact .inr (.inr ⟨h3,fun x hx=>k.mono x (h4 x hx)⟩)
   · exact .inr (.inr ⟨.step hw h1,h2⟩)
theorem XI.fin {g:List (List Nat)} {v:Nat} {R R':List Bool} (h:XI g v (g.getD v []) R R'):ZL g v R R':=by
 refine ⟨h.len,h.mono,h.self,fun k hk=>?_⟩
 rcases h.new k hk with h1|h1|h1
 · exact .inl h1
 · subst h1;exact .inr ⟨.refl k,h.done⟩
 · exact .inr h1
theorem kI {g:List (List Nat)} (he:N2 g) {i:Nat} (hi:i < g.length) {R':List Bool} (h:ZL g i (AG g.length false) R'):R'=Rh g i:=by
 have hl:R'.length=g.length:=by rw [h.len];simp
 have hf:∀k:Nat,(AG g.length false)[k]?≠some true:=fun k hk=>by
  rw [List.getElem?_replicate] at hk;split at hk<;>cases hk
 have hc:∀a b,Reach g a b→R'[a]?=some true→R'[b]?=some true:=fun a b hr=>by
  induction hr with
  |refl=>exact id
  |step hw _ ih=>
   intro ha
   rcases h.new _ ha with h1|⟨_,h2⟩
   · exact absurd h1 (hf _)
   · exact ih (h2 _ hw)
 apply Dv
 intro k
 by_cases hk:k < g.length
 · have hR:R'[k]?=some R'[k]:=by simp [hl,hk]
   rw [Rh,Ah,C8 hk,Bn,hR]
   congr 1
   rw [Ac,Oj]
   constructor
   · intro ht
     rw [ht] at hR
     rcases h.new k hR with h1|h1
     · exact absurd h1 (hf k)
     · exact h1.1
   · intro hr
     have:=hc i k hr h.self
     rw [hR] at this
     exact Option.some.inj this
 · rw [Ao (by omega),Ao (by simp [Rh];omega)]
def unm (R:List Bool):Nat:=(R.filter (fun b=>!b)).length
theorem Xs:∀ {R:List Bool} {v:Nat},R[v]?=some false→unm (R.set v true)+1=unm R
 |[],v,h=>by simp at h
 |b::R,0,h=>by simp at h;subst h;simp [unm]
 |b::R,v+1,h=>by
  have:=Xs (R:=R) (v:=v) (by simpa using h)
  cases b<;>simp [unm] at this ⊢<;>omega
theorem bG:∀ {R R':List Bool},R'.length=R.length→(∀k:Nat,R[k]?=some true→R'[k]?=some true)→unm R'≤unm R
 |[],[],_,_=>A0 _
 |[],_::_,h,_=>by simp at h
 |_::_,[],h,_=>by simp at h
 |b::R,c::R',h,hm=>by
  have:=bG (R:=R) (R':=R') (by simpa using h) (fun k hk=>by simpa using hm (k+1) (by simpa using hk))
  have h0:=hm 0
  cases b<;>cases c<;>simp [unm] at this h0 ⊢<;>omega
end Go.Ab
namespace Go.Ab
open Go.Proofs
structure CB (g:List (List Nat)) (j1 j4 j5 j6 jr jw i:Nat) (cells:List AV) (R:List Bool) (τ:AF):Prop where
 b1:τ.blk j1=some [.d (.sl (g.map Eb))]
 b4:τ.blk j4=some [.ms jr g.length 1 78]
 b5:τ.blk j5=some [.d (.int .i64 i)]
 b6:τ.blk j6=some [.fn 69 [] [.gp j4 0,.gp j5 0,.gp j1 0,.gp j6 0]]
 br:τ.blk jr=some cells
 cl:cells.length=g.length
 ci:cells[i]?=some (.ms jw g.length 1 4)
 il:i < g.length
 bw:τ.blk jw=some (BK R)
 rl:R.length=g.length
 n1:jw≠j1
 n4:jw≠j4
 n5:jw≠j5
 n6:jw≠j6
 nr:jw≠jr
theorem CB.set {g:List (List Nat)} {j1 j4 j5 j6 jr jw i:Nat} {cells:List AV} {R:List Bool} {τ:AF} (h:CB g j1 j4 j5 j6 jr jw i cells R τ) (R':List Bool) (hl:R'.length=R.length):CB g j1 j4 j5 j6 jr jw i cells R' (τ.AP jw (BK R')):=
 ⟨by rw [AL,if_neg (Bs h.n1)];exact h.b1,by rw [AL,if_neg (Bs h.n4)];exact h.b4,by rw [AL,if_neg (Bs h.n5)];exact h.b5,by rw [AL,if_neg (Bs h.n6)];exact h.b6,
   by rw [AL,if_neg (Bs h.nr)];exact h.br,h.cl,h.ci,h.il,by rw [AL,if_pos rfl],hl.trans h.rl,h.n1,h.n4,h.n5,h.n6,h.nr⟩
theorem MF {l:List Bool} {k:Nat} (x:Bool) (h:k < l.length):DN k (BK l)++[AV.d (.bool x)]++Cs (k+1) (BK l)=BK (l.set k x):=by
 have:=RA x h
 simpa only [wr,A5,BX,Ak] using this
theorem OJ {l:List Bool} {k:Nat} (h:k < l.length):(k+1≤(BK l).length)=True:=by rw [PH];simp;omega
theorem gN (g:List (List Nat)) (hg:N2 g) (hgl:g.length≤1000) (hll:∀l∈g,l.length≤1000) (j1 j4 j5 j6 jr jw i:Nat) (cells:List AV):∀(N:Nat) (R:List Bool) (v:Nat) (τ:AF),unm R=N→v < g.length→CB g j1 j4 j5 j6 jr jw i cells R τ→
 AM Tryz.prog 69 [.d (.int .i64 v),.gp j4 0,.gp j5 0,.gp j1 0,.gp j6 0] τ (fun av σ'=>∃R',av= .tup []∧σ'=τ.AP jw (BK R')∧ZL g v R R'):=by
 intro N
 induction N using Nat.strongRecOn with
 |_ N ihN=>
 intro R v τ hN hv hc
 obtain ⟨x,hx⟩:=BC (show v < R.length by rw [hc.rl];exact hv)
 have hbx:=DD hx
 have hil:((i:Int) < (g.length:Int))=True:=by simp only [eq_iff_iff,iff_true];have:=hc.il;omega
 have hvl:((v:Int) < (g.length:Int))=True:=by simp only [eq_iff_iff,iff_true];omega
 refine O9 (by simp) ?_
 rw [gE]
 cases x with
 |true=>
  (repeat' (first|refine Run.ct rfl ?_|((first|refine Run.reg mixed ?_|refine Run.AD ?_|(refine Run.A1 GR (AF.le_refl _) ?_))<;>try simp -implicitDefEqProofs only [hc.b1,hc.b4,hc.b5,hc.b6,hc.br,hc.bw,hc.ci,hil,hvl,hbx,Ai,go_sem])|fail))
  exact ⟨R,(H6 hc.bw).symm,ZL.skip hx⟩
 |false=>
  have hvR:v < R.length:=(AR.1 hx).1
  have w1:=MF true hvR
  have d1:=OJ hvR
  obtain ⟨l,hl⟩:=BC hv
  have hel:=Ay (enc:=Eb) hl
  rw [VM] at hel
  have hgd:g.getD v []=l:=by rw [BQ,hl];rfl
  have hlm:=hll l (AT hl)
  have hc1:=hc.set (R.set v true) (by simp)
  (repeat' (first|refine Run.ct rfl ?_|((first|refine Run.reg mixed ?_|refine Run.AD ?_)<;>try simp -implicitDefEqProofs only [hc.b1,hc.b4,hc.b5,hc.b6,hc.br,hc.bw,hc.ci,hil,hvl,hbx,Ai,d1,w1,hc1.b1,hel,AA,go_sem])|fail))
  refine Run.BD ?_
  refine Run.BG ((fun (a4:AV) (a24:AV) (a25:AV)=>fun (y:Nat×List Bool)=>put 4 a4 (put 24 a24 (put 25 a25 (put 26 (.d (.int .i64 y.1)) U)))) _ _ _) (fun _=>E) (fun y=>τ.AP jw (BK y.2))
   (fun y=>y.1≤l.length∧XI g v (l.take y.1) R y.2) (fun y=>l.length - y.1) ?_ (0,R.set v true) ⟨by simp,XI.start hvR⟩
  rintro ⟨q,Rq⟩ ⟨hq,hd⟩ ih
  simp only at hq hd
  by_cases hlt:q < l.length
  · obtain ⟨w,hw⟩:=BC hlt
    have hew:=Ay (enc:=DI) hw
    rw [Kn] at hew
    have hw1:=A6 (show q+1≤9000000000000000000 by omega)
    have hwm:w∈g.getD v []:=by rw [hgd];exact AT hw
    have hcq:=hc.set Rq hd.len
    have hun:unm Rq < N:=by
     have h1:=Xs hx
     have h2:=bG (R:=R.set v true) (R':=Rq) (by rw [hd.len];simp) (fun k hk=>by
      rw [An] at hk
      split at hk
      · rename_i e;subst e;exact hd.self
      · exact hd.mono k hk)
     omega
    have hcl:=ihN _ hun Rq w (τ.AP jw (BK Rq)) rfl (hg.at hwm) hcq
    (repeat' (first|refine Run.ct rfl ?_|((first|refine Run.reg mixed ?_|refine Run.AD ?_|(refine ⟨_,[],[.gp j4 0,.gp j5 0,.gp j1 0,.gp j6 0],rfl,by kernel_rfl,AJ.mk rfl hcl ?_⟩;rintro _ _ ⟨R2,rfl,rfl,hd2⟩;rw [F5]))<;>try simp -implicitDefEqProofs only [A8 hlt,hew,hcq.b6,hw1,go_sem])|fail))
    exact ih (q+1,R2) ⟨by simp only;omega,by simp only;rw [Aw hw];exact hd.next hwm hd2⟩ (by simp only;omega)
  · rw [AH (by omega)] at hd
    (repeat' (first|refine Run.ct rfl ?_|((first|refine Run.reg mixed ?_|refine Run.AD ?_)<;>try simp -implicitDefEqProofs only [Bd hlt,go_sem])|fail))
    refine Run.fin GR (v:= .tup []) rfl (fun _ _ h=>h) (AF.le_refl _) ?_
    exact ⟨Rq,rfl,rfl,by rw [← hgd] at hd;exact hd.fin⟩
end Go.Ab
namespace Go.Ab
open Go.Proofs
structure RS (σ:AF) (g:List (List Nat)) (j1 j3 j4 jr:Nat) (i m:Nat) (cells:List AV) (τ:AF):Prop where
 b1:τ.blk j1=some [.d (.sl (g.map Eb))]
 b3:τ.blk j3=some [.d (.int .i64 g.length)]
 b4:τ.blk j4=some [.ms jr g.length 1 78]
 br:τ.blk jr=some cells
 cl:cells.length=g.length
 rows:∀k,k < i→∃jk,cells[k]?=some (.ms jk g.length 1 4)∧τ.blk jk=some (BK (Rh g k))∧jk≠jr
 rest:∀k,m≤k→k < g.length→cells[k]?=some .AY
 le:σ.le τ
 nr:σ.blk jr=none
 n1:jr≠j1
 n3:jr≠j3
 n4:jr≠j4
theorem AF.le.none {σ τ:AF} (h:σ.le τ) {j:Nat} (hj:τ.blk j=none):σ.blk j=none:=by
 cases hc:σ.blk j with
 |none=>rfl
 |some c=>rw [h.blk j c hc] at hj;cases hj
theorem RS.new {σ τ:AF} {g:List (List Nat)} {j1 j3 j4 jr i m:Nat} {cells:List AV} (h:RS σ g j1 j3 j4 jr i m cells τ) {j:Nat} (hj:σ.blk j=none) (n1:j≠j1) (n3:j≠j3) (n4:j≠j4) (nr:j≠jr) (hk:∀k jk,k < i→cells[k]?=some (.ms jk g.length 1 4)→jk≠j) (cs:List AV):RS σ g j1 j3 j4 jr i m cells (τ.AP j cs):=
 ⟨by rw [AL,if_neg (Bs n1)];exact h.b1,by rw [AL,if_neg (Bs n3)];exact h.b3,by rw [AL,if_neg (Bs n4)];exact h.b4,by rw [AL,if_neg (Bs nr)];exact h.br,h.cl,
   fun k hki=>by
    obtain ⟨jk,h1,h2,h3⟩:=h.rows k hki
    exact ⟨jk,h1,by rw [AL,if_neg (hk k jk hki h1)];exact h2,h3⟩,h.rest,C1 h.le hj,h.nr,h.n1,h.n3,h.n4⟩
theorem RS.fresh {σ τ:AF} {g:List (List Nat)} {j1 j3 j4 jr i m:Nat} {cells:List AV} (h:RS σ g j1 j3 j4 jr i m cells τ) {j:Nat} (hj:τ.blk j=none):σ.blk j=none∧j≠j1∧j≠j3∧j≠j4∧j≠jr∧∀k jk,k < i→cells[k]?=some (.ms jk g.length 1 4)→jk≠j:=by
 refine ⟨h.le.none hj,fun e=>?_,fun e=>?_,fun e=>?_,fun e=>?_,fun k jk hk hc e=>?_⟩
 · rw [e,h.b1] at hj;cases hj
 · rw [e,h.b3] at hj;cases hj
 · rw [e,h.b4] at hj;cases hj
 · rw [e,h.br] at hj;cases hj
 · obtain ⟨jk',h1,h2,_⟩:=h.rows k hk
   rw [hc] at h1;cases h1
   rw [e,hj] at h2;cases h2
theorem RS.bt {σ τ:AF} {g:List (List Nat)} {j1 j3 j4 jr i m:Nat} {cells:List AV} (h:RS σ g j1 j3 j4 jr i m cells τ) {j:Nat} {x:Nat×TypeId} (hj:τ.bt j=none):RS σ g j1 j3 j4 jr i m cells (τ.DK j x):=
 ⟨h.b1,h.b3,h.b4,h.br,h.cl,h.rows,h.rest,Rd h.le hj,h.nr,h.n1,h.n3,h.n4⟩
theorem Cz {τ:AF} {j k:Nat} {x:List AV} (h:τ.blk j=some x) (hk:τ.blk k=none) (cs:List AV):(τ.AP k cs).blk j=some x:=by
 rw [AL,if_neg (fun e=>by rw [e,hk] at h;cases h)];exact h
def jY (F0:Fm) (τ:AF) (jr n i:Nat) (cells:List AV) (F:Fm) (L:Lm) (τ':AF):Prop:=
 ∃jw,τ.blk jw=none∧M4 [1,3,4,5,18,19] F=F0∧I1 [1,3,4,5,18,19] L=E∧τ'=(τ.AP jw (BK (AG n false))).AP jr (cells.set i (.ms jw n 1 4))
theorem jY.mk {F0:Fm} {τ:AF} {jr n i:Nat} {cells:List AV} {F:Fm} {L:Lm} {τ':AF} (jw:Nat) (h1:τ.blk jw=none) (h2:M4 [1,3,4,5,18,19] F=F0) (h3:I1 [1,3,4,5,18,19] L=E) (h4:τ'=(τ.AP jw (BK (AG n false))).AP jr (cells.set i (.ms jw n 1 4))):jY F0 τ jr n i cells F L τ':=⟨jw,h1,h2,h3,h4⟩
theorem kE (Q:AV→AF→Prop) (rest:List CI) (g:List (List Nat)) (hg:N2 g) (hgl:g.length≤1000) (hll:∀l∈g,l.length≤1000) (j1 j3 j4 jr:Nat) (σ τ:AF) (cells:List AV) (h:RS σ g j1 j3 j4 jr 0 0 cells τ)
 (hfin:∀cells' τ',RS σ g j1 j3 j4 jr g.length g.length cells' τ'→Run B4 Q rest (put 1 (.gp j1 0) (put 3 (.gp j3 0) (put 4 (.gp j4 0) (put 18 (.d (.int .i64 g.length)) (put 19 (.d (.int .i64 g.length)) (put 20 (.d (.bool false)) U)))))) E τ'):
 Run B4 Q (.code (.loop IQ)::.blk 0::rest) (put 1 (.gp j1 0) (put 3 (.gp j3 0) (put 4 (.gp j4 0) (put 18 (.d (.int .i64 g.length)) (put 19 (.d (.int .i64 0)) U))))) E τ:=by
 refine Run.BD ?_
 refine Run.BG ((fun (a1:AV) (a3:AV) (a4:AV) (a18:AV)=>fun (y:Nat×List AV×AF)=>put 1 a1 (put 3 a3 (put 4 a4 (put 18 a18 (put 19 (.d (.int .i64 y.1)) U))))) _ _ _ _) (fun _=>E) (fun y=>y.2.2)
  (fun y=>y.1≤g.length∧RS σ g j1 j3 j4 jr y.1 y.1 y.2.1 y.2.2) (fun y=>g.length - y.1) ?_ (0,cells,τ) ⟨by simp,h⟩
 clear h
 rintro ⟨i,cells,τ⟩ ⟨hi,h⟩ ih
 simp only at hi h
 by_cases hlt:i < g.length
 · have hw1:=A6 (show i+1≤9000000000000000000 by omega)
   have hil:((i:Int) < (g.length:Int))=True:=by simp only [eq_iff_iff,iff_true];omega
   (repeat' (first|refine Run.ct rfl ?_|((first|refine Run.reg mixed ?_|refine Run.AD ?_)<;>try simp -implicitDefEqProofs only [A8 hlt,go_sem])|fail))
   rintro j5 ⟨hj5,hjb5⟩
   obtain ⟨f1,f2,f3,f4,f5,f6⟩:=h.fresh hj5
   have h1:=((h.new f1 f2 f3 f4 f5 f6 [.d (.int .i64 0)]).bt (x:=(1,3)) hjb5).new f1 f2 f3 f4 f5 f6 [.d (.int .i64 i)]
   have hb5:((((τ.AP j5 [AV.d (.int .i64 0)]).DK j5 (1,3))).AP j5 [.d (.int .i64 i)]).blk j5=some [.d (.int .i64 i)]:=by rw [AL,if_pos rfl]
   have hbt:∀(τ:AF) (x:Nat×TypeId),(τ.DK j5 x).blk=τ.blk:=fun _ _=>rfl
   simp -implicitDefEqProofs only [hbt,AL,go_sem]
   generalize ((τ.AP j5 [AV.d (.int .i64 0)]).DK j5 (1,3)).AP j5 [AV.d (.int .i64 i)]=τ1 at h1 hb5 ⊢
   clear hbt h hj5 hjb5
   have hil2:(i+1≤cells.length)=True:=by rw [h1.cl];simp;omega
   have hwr:∀x:AV,DN i cells++[x]++Cs (i+1) cells=cells.set i x:=fun x=>wr1 x (by rw [h1.cl];exact hlt)
   refine Run.ct rfl ?_
   refine Run.cF mixed (jY (put 1 (.gp j1 0) (put 3 (.gp j3 0) (put 4 (.gp j4 0) (put 5 (.gp j5 0) (put 18 (.d (.int .i64 g.length)) (put 19 (.d (.int .i64 i)) U)))))) τ1 jr g.length i cells) ?_ ?_
   · simp -implicitDefEqProofs only [h1.b3,h1.b4,hb5,h1.br,hil,Ai,and_true,go_sem]
     (repeat' (first|refine And.intro ?_ ?_|(refine Qx.mk (n:=g.length) (by omega) (by omega) (fun jw hjw=>?_);simp -implicitDefEqProofs only [KM,Cz h1.b4 hjw,Cz hb5 hjw,Cz h1.br hjw,hil,hil2,hwr,h1.b4,hb5,h1.br,Ai,and_true,go_sem];try (refine jY.mk jw hjw (by simp -implicitDefEqProofs only [go_sem]) (by simp -implicitDefEqProofs only [go_sem]) ?_;rfl))))
   · rintro F L τ2 ⟨jw,hjw,hF,hL,rfl⟩
     rw [hF,hL]
     clear hF hL
     have hjwr:jw≠jr:=fun e=>by rw [e,h1.br] at hjw;cases hjw
     have h2:RS σ g j1 j3 j4 jr i (i+1) (cells.set i (.ms jw g.length 1 4)) ((τ1.AP jw (BK (AG g.length false))).AP jr (cells.set i (.ms jw g.length 1 4))):=by
      have hs:∀j x,τ1.blk j=some x→j≠jr→((τ1.AP jw (BK (AG g.length false))).AP jr (cells.set i (.ms jw g.length 1 4))).blk j=some x:=fun j x hx hne=>by
       rw [AL,if_neg hne];exact Cz hx hjw _
      refine ⟨hs _ _ h1.b1 (Bs h1.n1),hs _ _ h1.b3 (Bs h1.n3),hs _ _ h1.b4 (Bs h1.n4),by rw [AL,if_pos rfl],by rw [LB];exact h1.cl,fun k hk=>?_,fun k hk hkl=>?_,C1 (C1 h1.le (h1.le.none hjw)) h1.nr,h1.nr,h1.n1,h1.n3,h1.n4⟩
      · obtain ⟨jk,g1,g2,g3⟩:=h1.rows k hk
        exact ⟨jk,by rw [An,if_neg (by omega)];exact g1,hs _ _ g2 g3,g3⟩
      · rw [An,if_neg (by omega)];exact h1.rest k (by omega) hkl
     have hw2:((τ1.AP jw (BK (AG g.length false))).AP jr (cells.set i (.ms jw g.length 1 4))).blk jw=some (BK (AG g.length false)):=by
      rw [AL,if_neg hjwr,AL,if_pos rfl]
     have hb52:((τ1.AP jw (BK (AG g.length false))).AP jr (cells.set i (.ms jw g.length 1 4))).blk j5=some [.d (.int .i64 i)]:=by
      rw [AL,if_neg f5];exact Cz hb5 hjw _
     have hci:(cells.set i (AV.ms jw g.length 1 4))[i]?=some (.ms jw g.length 1 4):=by rw [An,if_pos rfl,if_pos (by rw [h1.cl];exact hlt)]
     have hw51:jw≠j5:=fun e=>by rw [e,hb5] at hjw;cases hjw
     have hwn:jw≠j1∧jw≠j3∧jw≠j4:=⟨fun e=>(by rw [e,h1.b1] at hjw;cases hjw),fun e=>(by rw [e,h1.b3] at hjw;cases hjw),fun e=>(by rw [e,h1.b4] at hjw;cases hjw)⟩
     have hrw:∀k jk,k < i→(cells.set i (AV.ms jw g.length 1 4))[k]?=some (.ms jk g.length 1 4)→jk≠jw:=fun k jk hk hc e=>by
      rw [An,if_neg (by omega)] at hc
      obtain ⟨jk',g1,g2,_⟩:=h1.rows k hk
      rw [hc] at g1;cases g1
      rw [e,hjw] at g2;cases g2
     have hjw0:=h1.le.none hjw
     generalize (τ1.AP jw (BK (AG g.length false))).AP jr (cells.set i (.ms jw g.length 1 4))=τ2 at h2 hw2 hb52 ⊢
     clear h1 hb5 hil2 hwr hjw
     generalize cells.set i (AV.ms jw g.length 1 4)=cells2 at h2 hci hrw
     (repeat' (first|refine Run.ct rfl ?_|((first|refine Run.reg mixed ?_|refine Run.AD ?_)<;>try simp -implicitDefEqProofs only [hw1,go_sem])|fail))
     rintro j6 ⟨hj6,hjb6⟩
     obtain ⟨e1,e2,e3,e4,e5,e6⟩:=h2.fresh hj6
     have h2b:=(h2.new e1 e2 e3 e4 e5 e6 [.IL]).bt (x:=(1,102)) hjb6
     have n56:j5≠j6:=fun e=>by rw [← e,hb52] at hj6;cases hj6
     have nw6:jw≠j6:=fun e=>by rw [← e,hw2] at hj6;cases hj6
     have hbt:∀(τ:AF) (x:Nat×TypeId),(τ.DK j6 x).blk=τ.blk:=fun _ _=>rfl
     have hb6':((τ2.AP j6 [AV.IL]).DK j6 (1,102)).blk j6=some [.IL]:=by rw [hbt,AL,if_pos rfl]
     have hb53:((τ2.AP j6 [AV.IL]).DK j6 (1,102)).blk j5=some [.d (.int .i64 i)]:=by rw [hbt,AL,if_neg n56];exact hb52
     have hw3:((τ2.AP j6 [AV.IL]).DK j6 (1,102)).blk jw=some (BK (AG g.length false)):=by rw [hbt,AL,if_neg nw6];exact hw2
     generalize (τ2.AP j6 [AV.IL]).DK j6 (1,102)=τ3 at h2b hb6' hb53 hw3 ⊢
     clear hbt h2 hw2 hb52 hj6 hjb6
     have h3:=h2b.new e1 e2 e3 e4 e5 e6 [.fn 69 [] [.gp j4 0,.gp j5 0,.gp j1 0,.gp j6 0]]
     replace hb53:(τ3.AP j6 [.fn 69 [] [.gp j4 0,.gp j5 0,.gp j1 0,.gp j6 0]]).blk j5=some [.d (.int .i64 i)]:=by rw [AL,if_neg n56];exact hb53
     replace hw3:(τ3.AP j6 [.fn 69 [] [.gp j4 0,.gp j5 0,.gp j1 0,.gp j6 0]]).blk jw=some (BK (AG g.length false)):=by rw [AL,if_neg nw6];exact hw3
     have hb6:(τ3.AP j6 [.fn 69 [] [.gp j4 0,.gp j5 0,.gp j1 0,.gp j6 0]]).blk j6=some [.fn 69 [] [.gp j4 0,.gp j5 0,.gp j1 0,.gp j6 0]]:=by rw [AL,if_pos rfl]
     have hcb:CB g j1 j4 j5 j6 jr jw i cells2 (AG g.length false) _:=⟨h3.b1,h3.b4,hb53,hb6,h3.br,h3.cl,hci,hlt,hw3,by simp,hwn.1,hwn.2.2,hw51,nw6,hjwr⟩
     have hcl:=gN g hg hgl hll j1 j4 j5 j6 jr jw i cells2 _ (AG g.length false) i _ rfl hlt hcb
     (repeat' (first|refine Run.ct rfl ?_|((first|refine Run.reg mixed ?_|refine Run.AD ?_|(refine ⟨_,[],[.gp j4 0,.gp j5 0,.gp j1 0,.gp j6 0],rfl,by kernel_rfl,AJ.mk rfl hcl ?_⟩;rintro _ _ ⟨R2,rfl,rfl,hd⟩))<;>try simp -implicitDefEqProofs only [hb6',Cs,hb6,hb53,hw1,go_sem])|fail))
     have hR:=kI hg hlt hd
     subst hR
     refine ih (i+1,cells2,_) ⟨by simp only;omega,?_⟩ (by simp only;omega)
     have h4:=h3.new hjw0 hwn.1 hwn.2.1 hwn.2.2 hjwr hrw (BK (Rh g i))
     refine ⟨h4.b1,h4.b3,h4.b4,h4.br,h4.cl,fun k hk=>?_,h4.rest,h4.le,h4.nr,h4.n1,h4.n3,h4.n4⟩
     by_cases hki:k=i
     · subst hki
       exact ⟨jw,hci,if_pos rfl,hjwr⟩
     · exact h4.rows k (by omega)
 · have hie:i=g.length:=by omega
   subst hie
   have:=hfin cells τ h
   (repeat' (first|refine Run.ct rfl ?_|((first|refine Run.reg mixed ?_|refine Run.AD ?_)<;>try simp -implicitDefEqProofs only [Bd hlt,go_sem])|fail))
   exact this
end Go.Ab
namespace Go.Ab
def lsB (ls:List Bool) (k:Nat):Bool:=ls.getD k false
noncomputable def EP (g:List (List Nat)) (i k:Nat):Bool:=rB g i k&&rB g k i
noncomputable def Gb (g:List (List Nat)) (i:Nat):List Nat:=(Ae g.length).filter (EP g i)
noncomputable def S9 (g:List (List Nat)) (ls:List Bool) (i:Nat):Bool:=(Ae g.length).all fun j=>!((rB g i j&& !rB g j i)&& !lsB ls j)
noncomputable def SZ (g:List (List Nat)) (i:Nat) (ls:List Bool) (j:Nat):List Bool:=(Ae g.length).map fun k=>lsB ls k||(decide (k < j)&&EP g i k)
noncomputable def NP (g:List (List Nat)) (i:Nat) (ls:List Bool):List Bool:=SZ g i ls g.length
noncomputable def Lh (g:List (List Nat)) (ls:List Bool) (i:Nat):Bool:=!lsB ls i&&S9 g ls i
noncomputable def eT (g:List (List Nat)) (ls:List Bool):Option Nat:=(Ae g.length).find? (Lh g ls)
noncomputable def Mz (g:List (List Nat)):Nat→List Bool→List (List Nat)
 |0,_=>[]
 |f+1,ls=>match eT g ls with
  |none=>[]
  |some i=>Gb g i::Mz g f (NP g i ls)
noncomputable def Nc (g:List (List Nat)):List (List Nat):=Mz g (g.length+1) (AG g.length false)
theorem Hs (g:List (List Nat)) (i:Nat) (ls:List Bool) (j:Nat):(SZ g i ls j).length=g.length:=by simp [SZ]
theorem JR (g:List (List Nat)) (i:Nat) (ls:List Bool) (j:Nat) {k:Nat} (hk:k < g.length):(SZ g i ls j)[k]?=some (lsB ls k||(decide (k < j)&&EP g i k)):=by
 rw [SZ,Ah,C8 hk];rfl
theorem eL {g:List (List Nat)} {i:Nat} {ls:List Bool} (h:ls.length=g.length):SZ g i ls 0=ls:=by
 apply Dv
 intro k
 by_cases hk:k < g.length
 · rw [JR g i ls 0 hk]
   have:ls[k]?=some ls[k]:=by simp [h,hk]
   rw [this]
   simp [lsB,BQ,this]
 · rw [Ao (by rw [Hs];omega),Ao (by omega)]
theorem eK {g:List (List Nat)} {i:Nat} {ls:List Bool} {j:Nat} (hj:j < g.length):SZ g i ls (j+1)=if EP g i j then (SZ g i ls j).set j true else SZ g i ls j:=by
 apply Dv
 intro k
 by_cases hk:k < g.length
 · rw [JR g i ls _ hk]
   cases hm:EP g i j with
   |true=>
    rw [if_pos rfl,An]
    by_cases hjk:j=k
    · subst hjk
      rw [if_pos rfl,if_pos (by rw [Hs];exact hj)]
      simp [hm]
    · rw [if_neg hjk,JR g i ls _ hk]
      have:decide (k < j+1)=decide (k < j):=decide_eq_decide.2 (by omega)
      rw [this]
   |false=>
    rw [if_neg (by simp),JR g i ls _ hk]
    by_cases hjk:j=k
    · subst hjk;simp [hm]
    · have:decide (k < j+1)=decide (k < j):=decide_eq_decide.2 (by omega)
      rw [this]
 · have hl:(if EP g i j=true then (SZ g i ls j).set j true else SZ g i ls j).length=g.length:=by
    split
    · rw [LB,Hs]
    · rw [Hs]
   rw [Ao (by rw [Hs];omega),Ao (by omega)]
theorem Wo (g:List (List Nat)) (i:Nat):EP g i i=true:=by
 simp [EP,Oj.2 (Reach.refl i)]
theorem KF {ls:List Bool} {k:Nat} {b:Bool} (h:ls[k]?=some b):lsB ls k=b:=by simp [lsB,BQ,h]
theorem jP:∀ {R R':List Bool} {v:Nat},R'.length=R.length→(∀k:Nat,R[k]?=some true→R'[k]?=some true)→R[v]?=some false→R'[v]?=some true→unm R' < unm R
 |[],R',v,h,hm,hv,_=>by simp at hv
 |b::R,[],v,h,_,_,_=>by simp at h
 |b::R,c::R',0,h,hm,hv,hv'=>by
  simp at hv hv';subst hv;subst hv'
  have:=bG (R:=R) (R':=R') (by simpa using h) (fun k hk=>by simpa using hm (k+1) (by simpa using hk))
  simp [unm] at this ⊢;omega
 |b::R,c::R',v+1,h,hm,hv,hv'=>by
  have:=jP (R:=R) (R':=R') (v:=v) (by simpa using h) (fun k hk=>by simpa using hm (k+1) (by simpa using hk)) (by simpa using hv) (by simpa using hv')
  have h0:=hm 0
  cases b<;>cases c<;>simp [unm] at this h0 ⊢<;>omega
theorem cG {g:List (List Nat)} {i:Nat} {ls:List Bool} (hl:ls.length=g.length) (hi:i < g.length) (h:lsB ls i=false):unm (NP g i ls) < unm ls:=by
 have hgi:ls[i]?=some false:=by
  have h1:ls[i]?=some ls[i]:=by simp [hl,hi]
  have:=KF h1
  rw [h1,← this,h]
 refine jP (v:=i) (by rw [NP,Hs,hl]) (fun k hk=>?_) hgi ?_
 · have hkl:k < g.length:=by have:=(AR.1 hk).1;omega
   rw [NP,JR g i ls _ hkl,KF hk];rfl
 · rw [NP,JR g i ls _ hi,h,Wo];simp [hi]
theorem XV {p:Nat→Bool} {n i:Nat} (hi:i < n) (hp:p i=true) (hn:∀k,k < i→p k=false):(Ae n).find? p=some i:=by
 rw [List.find?_range_eq_some]
 exact ⟨hp,by simpa using hi,fun j hj=>by simp [hn j hj]⟩
theorem Wj {p:Nat→Bool} {n:Nat} (hn:∀k,k < n→p k=false):(Ae n).find? p=none:=by
 rw [List.find?_eq_none];intro x hx;rw [F9] at hx;simp [hn x hx]
end Go.Ab
namespace Go.Ab
def tkA:AV→Option Nat
 | .own t _ _ _=>some t
 |_=>none
def UF (v w:AV):Prop:=∀t,tkA v=some t→tkA w≠some t
theorem UF.symm {v w:AV} (h:UF v w):UF w v:=fun t h1 h2=>h t h2 h1
theorem ZP (w:AV):UF .AY w:=fun t h=>by cases h
theorem Cg.M4 {σ0 σ σ':AF} {e s:Nat} {rows:List (List DV)} {w:AV} (h:Cg σ0 e s rows w σ) (hle:σ0.le σ') (ht:∀t,tkA w=some t→σ.tok t=true→σ'.tok t=true):Cg σ0 e s rows w σ':=by
 obtain ⟨⟨σ1,ha,hl⟩,_,h1,h2,h3,h4,h5,h6,h7⟩:=h
 refine ⟨?_,hle,h1,h2,h3,h4,h5,h6,h7⟩
 unfold Nm at ha ⊢
 split at ha
 · cases ha;exact ⟨σ',rfl,hle⟩
 · rename_i t e' s' rows'
   split at ha
   · rename_i hc
     cases ha
     obtain ⟨q1,q2,q3⟩:=hc
     refine ⟨σ'.Ei t,by rw [if_pos ⟨q1,q2,ht t rfl q3⟩],⟨hle.blk,fun t' h'=>?_,hle.gt,hle.bt⟩⟩
     have hne:t'≠t:=fun e=>by
      have:=hl.tok t' h'
      simp [AF.Ei,e] at this
     simp [AF.Ei,hne,hle.tok t' h']
   · cases ha
 · cases ha
theorem Dy.pX {cx:Cx} {K:Fm→Lm→AF→Prop} {F:Fm} {L:Lm} {σ σ0:AF} {d:Option Nat} {e size bytes:Nat} {s x:AV} {rows srows:List (List DV)} (ho:Cg σ0 e size rows s σ) (h2:x.rows=some srows)
 (h3:∀r∈srows,r.length=size) (h4:rows.length+srows.length≤1000000000) (hb:bytes≤10000)
 (h:∀v σ',Cg σ0 e size (rows++srows) v σ'→(∀i,σ'.blk i=σ.blk i)→(∀e2 s2 rows2 w,Cg σ0 e2 s2 rows2 w σ→UF s w→Cg σ0 e2 s2 rows2 w σ'∧UF v w)→K (Av d v F) L σ'):Dy e size bytes s x d K F L σ:=by
 obtain ⟨σ1,ha,hl⟩:=ho.app
 have hblk:∀i,σ1.blk i=σ.blk i:=fun i=>by
  unfold Nm at ha
  split at ha
  · cases ha;rfl
  · split at ha
    · cases ha;rfl
    · cases ha
  · cases ha
 have htok:∀t,tkA s≠some t→σ.tok t=true→σ1.tok t=true:=fun t hne ht=>by
  unfold Nm at ha
  split at ha
  · cases ha;exact ht
  · rename_i ts e' s' rows'
    split at ha
    · cases ha
      have:t≠ts:=fun e=>hne (by rw [e];rfl)
      simp [AF.Ei,this,ht]
    · cases ha
  · cases ha
 refine Dy.mk ha h2 h3 (by simp only [maxLen];omega) ?_ (fun t ht=>h _ _ (Cg.own hl ho.le ht) (fun i=>by rw [QU];exact hblk i) (fun e2 s2 rows2 w hw hap=>?_))
 · calc (rows.length+srows.length) * bytes≤1000000000 * 10000:=MD h4 hb
    _≤140737488355328:=by decide
 · have hwt:∀t',tkA w=some t'→σ.tok t'=true:=fun t' h'=>by
    obtain ⟨_,hw1,_⟩:=hw.app
    cases w<;>simp only [tkA] at h'<;>try cases h'
    simp only [Nm] at hw1
    split at hw1
    · rename_i hc;exact hc.2.2
    · cases hw1
   have hown:=Cg.own (e:=e) (s:=size) (rows:=rows++srows) hl ho.le ht
   refine ⟨hw.M4 hown.le (fun t' h1 h2=>?_),fun t' h1 h3=>?_⟩
   · have:=htok t' (fun e=>hap t' e h1) h2
     simp [AF.F2,this]
   · simp only [tkA,AK] at h1
     subst h1
     rw [hwt _ h3] at ht;cases ht
end Go.Ab
namespace Go.Ab
structure Ow where
 e:Nat
 s:Nat
 rows:List (List DV)
 v:AV
def F1 (σ0:AF) (l:List Ow) (τ:AF):Prop:=(∀x∈l,Cg σ0 x.e x.s x.rows x.v τ)∧l.Pairwise fun a b=>UF a.v b.v
theorem F1.perm {σ0 τ:AF} {l m:List Ow} (h:F1 σ0 l τ) (hp:l.Perm m):F1 σ0 m τ:=
 ⟨fun x hx=>h.1 x (hp.mem_iff.2 hx),(hp.pairwise_iff (fun hab=>hab.symm)).1 h.2⟩
theorem F1.head {σ0 τ:AF} {l:List Ow} {x:Ow} (h:F1 σ0 (x::l) τ):Cg σ0 x.e x.s x.rows x.v τ:=h.1 x (BT ..)
theorem F1.tail {σ0 τ:AF} {l:List Ow} {x:Ow} (h:F1 σ0 (x::l) τ):F1 σ0 l τ:=⟨fun y hy=>h.1 y (B8 _ hy),(H7.1 h.2).2⟩
theorem F1.nil {σ0 τ:AF} {l:List Ow} (h:F1 σ0 l τ) (hle:σ0.le τ) (e s:Nat):F1 σ0 (⟨e,s,[],.AY⟩::l) τ:=
 ⟨fun y hy=>by
   rcases Bf.1 hy with rfl|hy
   · exact ⟨⟨τ,rfl,hle⟩,hle,rfl,rfl,rfl,rfl,fun _=>rfl,rfl,rfl⟩
   · exact h.1 y hy,H7.2 ⟨fun y _=>ZP y.v,h.2⟩⟩
theorem Dy.aE {cx:Cx} {K:Fm→Lm→AF→Prop} {F:Fm} {L:Lm} {σ σ0:AF} {d:Option Nat} {e size bytes:Nat} {s x:AV} {rows srows:List (List DV)} {l:List Ow} (ho:F1 σ0 (⟨e,size,rows,s⟩::l) σ) (h2:x.rows=some srows)
 (h3:∀r∈srows,r.length=size) (h4:rows.length+srows.length≤1000000000) (hb:bytes≤10000)
 (h:∀v σ',F1 σ0 (⟨e,size,rows++srows,v⟩::l) σ'→(∀i,σ'.blk i=σ.blk i)→K (Av d v F) L σ'):Dy e size bytes s x d K F L σ:=
 Dy.pX (cx:=cx) ho.head h2 h3 h4 hb (fun v σ' h1 hbk hk=>h v σ' ⟨fun y hy=>by
  rcases Bf.1 hy with rfl|hy
  · exact h1
  · exact (hk _ _ _ _ (ho.tail.1 y hy) ((H7.1 ho.2).1 y hy)).1,
  H7.2 ⟨fun y hy=>(hk _ _ _ _ (ho.tail.1 y hy) ((H7.1 ho.2).1 y hy)).2,(H7.1 ho.2).2⟩⟩ hbk)
end Go.Ab
