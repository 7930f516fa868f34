/- Programs read out of memory. Components of a graph, in plain data: what a search marks. Components of a graph, in plain data: the groups in their order. Components of a graph, in plain data: the first of a group. Components in plain data: the groups hold each node once, and edges lead to the own or an earlier group. Rules for walks that split and call by themselves. Data types of package api as plain data. Conditions: none. -/
import Derived.Test.YtlckhmkeihbhmaaGreatXAb13
set_option linter.unusedSimpArgs false
set_option linter.unusedVariables false
set_option maxRecDepth 4000
set_option maxHeartbeats 8000000
open List renaming cons_append→Aa,nil_append→Ay,append_nil→Ao,getD_eq_getElem?_getD→Ap,mem_of_getElem?→AT,range→An,getElem?_set→BW,mem_append→A7,replicate→AH,ext_getElem?→Fq,getElem?_map→Ag,getElem?_range→DC,getElem?_eq_none→BI,getElem?_eq_some_iff→AR,mem_range→Ci,all_eq_true→Ah,mem_filter→On,length_filter_le→F6,take_append_drop→A3
open Nat renaming le_refl→A0,le_trans→BS
open Option renaming map_some→Bs
open Bool renaming eq_iff_iff→Af,and_eq_true→AP,not_eq_true'→B1,eq_false_iff→CU,or_false→GZ
namespace Go.Ab
open Go.Proofs
theorem Qh {ds:List DV} (h:DT Tryz.prog 38 ds):∃l:List Str,ds=[.sl (l.map Aw)]:=by
 obtain ⟨rows,rfl,_,hr⟩:=h.OL Tryz.underlying38
 obtain ⟨l,rfl⟩:=Hj (f:=Aw) rows (fun r hm=>by
  obtain ⟨s,rfl,_⟩:=(hr r hm).Mg Tryz.underlying9
  exact ⟨s,rfl⟩)
 exact ⟨l,rfl⟩
theorem lL:∀(n:Nat) (ds:List DV),SizeOf.sizeOf ds≤n→DT Tryz.prog 74 ds→∃t:TE,ds=t.enc:=by
 intro n
 induction n with
 |zero=>intro ds h;cases ds<;>simp at h
 |succ n ih=>
  intro ds hn h
  obtain ⟨a,b,rfl,h1,hb⟩:=(h.HF Tryz.underlying74).C3
  obtain ⟨a2,b2,rfl,h2,hb2⟩:=hb.C3
  obtain ⟨a3,b3,rfl,h3,hb3⟩:=hb2.C3
  cases hb3.Mf
  obtain ⟨k,rfl,_⟩:=h1.Wd Tryz.underlying3
  obtain ⟨m,rfl,_⟩:=h2.Mg Tryz.underlying9
  obtain ⟨rows,rfl,_,hr⟩:=h3.OL Tryz.underlying70
  obtain ⟨l,rfl⟩:=Hj (f:=TE.enc) rows (fun r hm=>ih r (by
   have:=List.sizeOf_lt_of_mem hm
   simp only [Aa,Ay,Ao,List.cons.sizeOf_spec,List.nil.sizeOf_spec,DV.int.sizeOf_spec,DV.str.sizeOf_spec,DV.sl.sizeOf_spec] at hn
   omega) (hr r hm))
  exact ⟨.mk k m l,by rw [TE.A4];rfl⟩
theorem lI:∀(n:Nat) (ds:List DV),SizeOf.sizeOf ds≤n→DT Tryz.prog 42 ds→∃t:Ex,ds=t.enc:=by
 intro n
 induction n with
 |zero=>intro ds h;cases ds<;>simp at h
 |succ n ih=>
  intro ds hn h
  obtain ⟨a,b,rfl,h1,hb⟩:=(h.HF Tryz.underlying42).C3
  obtain ⟨a2,b2,rfl,h2,hb2⟩:=hb.C3
  obtain ⟨a3,b3,rfl,h3,hb3⟩:=hb2.C3
  obtain ⟨a4,b4,rfl,h4,hb4⟩:=hb3.C3
  obtain ⟨a5,b5,rfl,h5,hb5⟩:=hb4.C3
  obtain ⟨a6,b6,rfl,h6,hb6⟩:=hb5.C3
  cases hb6.Mf
  obtain ⟨o,rfl,_⟩:=h1.Wd Tryz.underlying3
  obtain ⟨m,rfl,_⟩:=h2.Mg Tryz.underlying9
  obtain ⟨u,rfl,_⟩:=h3.Wd Tryz.underlying2
  obtain ⟨ns,rfl⟩:=Qh h4
  obtain ⟨rows,rfl,_,hr⟩:=h5.OL Tryz.underlying39
  obtain ⟨rows2,rfl,_,hr2⟩:=h6.OL Tryz.underlying40
  simp only [Aa,Ay,Ao,List.cons.sizeOf_spec,List.nil.sizeOf_spec,DV.int.sizeOf_spec,DV.str.sizeOf_spec,DV.sl.sizeOf_spec] at hn
  obtain ⟨l,rfl⟩:=Hj (f:=Ex.enc) rows (fun r hm=>ih r (by
   have:=List.sizeOf_lt_of_mem hm
   omega) (hr r hm))
  obtain ⟨l2,rfl⟩:=Hj (f:=Al.enc) rows2 (fun r hm=>by
   have hlt:=List.sizeOf_lt_of_mem hm
   obtain ⟨c1,d1,rfl,g1,e1⟩:=((hr2 r hm).HF Tryz.underlying129).C3
   obtain ⟨c2,d2,rfl,g2,e2⟩:=e1.C3
   obtain ⟨c3,d3,rfl,g3,e3⟩:=e2.C3
   cases e3.Mf
   obtain ⟨c,rfl,_⟩:=g1.Mg Tryz.underlying9
   obtain ⟨vs,rfl⟩:=Qh g2
   simp only [Aa,Ay,Ao,List.cons.sizeOf_spec,DV.str.sizeOf_spec,DV.sl.sizeOf_spec] at hlt
   obtain ⟨e,rfl⟩:=ih c3 (by omega) g3
   exact ⟨.mk c vs e,by simp [Al.enc,ssD]⟩)
  exact ⟨.mk o m u ns l l2,by rw [Ex.A4];rfl⟩
theorem lG (ds:List DV) (h:DT Tryz.prog 72 ds):∃c:CE,ds=c.enc:=by
 obtain ⟨a,b,rfl,h1,hb⟩:=(h.HF Tryz.underlying72).C3
 obtain ⟨a2,b2,rfl,h2,hb2⟩:=hb.C3
 cases hb2.Mf
 obtain ⟨s,rfl,_⟩:=h1.Mg Tryz.underlying9
 obtain ⟨rows,rfl,_,hr⟩:=h2.OL Tryz.underlying70
 obtain ⟨l,rfl⟩:=Hj (f:=TE.enc) rows (fun r hm=>lL _ r (A0 _) (hr r hm))
 exact ⟨⟨s,l⟩,rfl⟩
theorem lH (ds:List DV) (h:DT Tryz.prog 68 ds):∃c:DE,ds=c.enc:=by
 obtain ⟨a,b,rfl,h1,hb⟩:=(h.HF Tryz.underlying68).C3
 obtain ⟨a2,b2,rfl,h2,hb2⟩:=hb.C3
 obtain ⟨a3,b3,rfl,h3,hb3⟩:=hb2.C3
 cases hb3.Mf
 obtain ⟨s,rfl,_⟩:=h1.Mg Tryz.underlying9
 obtain ⟨vs,rfl⟩:=Qh h2
 obtain ⟨rows,rfl,_,hr⟩:=h3.OL Tryz.underlying66
 obtain ⟨l,rfl⟩:=Hj (f:=CE.enc) rows (fun r hm=>lG r (hr r hm))
 exact ⟨⟨s,vs,l⟩,rfl⟩
theorem lJ (ds:List DV) (h:DT Tryz.prog 44 ds):∃c:FE,ds=c.enc:=by
 obtain ⟨a,b,rfl,h1,hb⟩:=(h.HF Tryz.underlying44).C3
 obtain ⟨a2,b2,rfl,h2,hb2⟩:=hb.C3
 obtain ⟨a3,b3,rfl,h3,hb3⟩:=hb2.C3
 cases hb3.Mf
 obtain ⟨s,rfl,_⟩:=h1.Mg Tryz.underlying9
 obtain ⟨vs,rfl⟩:=Qh h2
 obtain ⟨e,rfl⟩:=lI _ a3 (A0 _) h3
 exact ⟨⟨s,vs,e⟩,by simp [FE.enc]⟩
theorem lK (ds:List DV) (h:DT Tryz.prog 25 ds):∃p:Pg,ds=p.enc:=by
 obtain ⟨a,b,rfl,h1,hb⟩:=(h.HF Tryz.underlying25).C3
 obtain ⟨a2,b2,rfl,h2,hb2⟩:=hb.C3
 cases hb2.Mf
 obtain ⟨rows,rfl,_,hr⟩:=h1.OL Tryz.underlying22
 obtain ⟨l,rfl⟩:=Hj (f:=DE.enc) rows (fun r hm=>lH r (hr r hm))
 obtain ⟨rows2,rfl,_,hr2⟩:=h2.OL Tryz.underlying23
 obtain ⟨l2,rfl⟩:=Hj (f:=FE.enc) rows2 (fun r hm=>lJ r (hr2 r hm))
 exact ⟨⟨l,l2⟩,rfl⟩
theorem iE {av:List AV} (h:SH Tryz.prog [25] av):∃p:Pg,av=[pgA p]:=by
 cases h with
 |cons h1 h=>
  cases h
  obtain ⟨p,rfl⟩:=lK _ h1
  exact ⟨p,by rw [SI Tryz.underlying25];rfl⟩
end Go.Ab
namespace Go.Ab
inductive Reach (g:List (List Nat)):Nat→Nat→Prop
 |refl (v:Nat):Reach g v v
 |step {v w k:Nat} (h:w∈g.getD v []) (hr:Reach g w k):Reach g v k
theorem Reach.trans {g:List (List Nat)} {a b c:Nat} (h:Reach g a b) (k:Reach g b c):Reach g a c:=by
 induction h with
 |refl=>exact k
 |step h _ ih=>exact .step h (ih k)
theorem Reach.one {g:List (List Nat)} {a b:Nat} (h:b∈g.getD a []):Reach g a b:= .step h (.refl b)
def N9 (g:List (List Nat)):Prop:=∀l∈g,∀w∈l,w < g.length
theorem N9.at {g:List (List Nat)} (h:N9 g) {v w:Nat} (hw:w∈g.getD v []):w < g.length:=by
 rw [Ap] at hw
 cases hv:g[v]? with
 |none=>rw [hv] at hw;simp at hw
 |some l=>rw [hv] at hw;exact h l (AT hv) w hw
theorem Reach.lt {g:List (List Nat)} (he:N9 g) {a b:Nat} (h:Reach g a b) (ha:a < g.length):b < g.length:=by
 induction h with
 |refl=>exact ha
 |step h _ ih=>exact ih (he.at h)
open Classical in
noncomputable def rB (g:List (List Nat)) (i k:Nat):Bool:=decide (Reach g i k)
theorem OQ {g:List (List Nat)} {i k:Nat}:rB g i k=true↔Reach g i k:=by simp [rB]
noncomputable def Xt (g:List (List Nat)) (i:Nat):List Bool:=(An g.length).map (rB g i)
structure YU (g:List (List Nat)) (v:Nat) (R R':List Bool):Prop where
 len:R'.length=R.length
 mono:∀k:Nat,R[k]?=some true→R'[k]?=some true
 self:R'[v]?=some true
 new:∀k:Nat,R'[k]?=some true→R[k]?=some true∨(Reach g v k∧∀w∈g.getD k [],R'[w]?=some true)
theorem YU.skip {g:List (List Nat)} {v:Nat} {R:List Bool} (h:R[v]?=some true):YU g v R R:=⟨rfl,fun _ h=>h,h,fun _ h=>.inl h⟩
structure WR (g:List (List Nat)) (v:Nat) (ws:List Nat) (R R':List Bool):Prop where
 len:R'.length=R.length
 mono:∀k:Nat,R[k]?=some true→R'[k]?=some true
 self:R'[v]?=some true
 done:∀w∈ws,R'[w]?=some true
 new:∀k:Nat,R'[k]?=some true→R[k]?=some true∨k=v∨(Reach g v k∧∀w∈g.getD k [],R'[w]?=some true)
theorem WR.start {g:List (List Nat)} {v:Nat} {R:List Bool} (h:v < R.length):WR g v [] R (R.set v true):=by
 refine ⟨by simp,fun k hk=>?_,by simp [h],by simp,fun k hk=>?_⟩
 · rw [BW]
   split
   · rename_i e;subst e;simp [h]
   · exact hk
 · rw [BW] at hk
   split at hk
   · rename_i e;exact .inr (.inl e.symm)
   · exact .inl hk
theorem WR.next {g:List (List Nat)} {v w:Nat} {ws:List Nat} {R R1 R2:List Bool} (h:WR g v ws R R1) (hw:w∈g.getD v []) (k:YU g w R1 R2):WR g v (ws++[w]) R R2:=by
 refine ⟨k.len.trans h.len,fun q hq=>k.mono q (h.mono q hq),k.mono v h.self,fun x hx=>?_,fun q hq=>?_⟩
 · rcases A7.1 hx with hx|hx
   · exact k.mono x (h.done x hx)
   · simp at hx;subst hx;exact k.self
 · rcases k.new q hq with h1|⟨h1,h2⟩
   · rcases h.new q h1 with h3|h3|⟨h3,h4⟩
     · exact .inl h3
     · exact .inr (.inl h3)
     · exact .inr (.inr ⟨h3,fun x hx=>k.mono x (h4 x hx)⟩)
   · exact .inr (.inr ⟨.step hw h1,h2⟩)
theorem WR.fin {g:List (List Nat)} {v:Nat} {R R':List Bool} (h:WR g v (g.getD v []) R R'):YU g v R R':=by
 refine ⟨h.len,h.mono,h.self,fun k hk=>?_⟩
 rcases h.new k hk with h1|h1|h1
 · exact .inl h1
 · subst h1;exact .inr ⟨.refl k,h.done⟩
 · exact .inr h1
theorem iM {g:List (List Nat)} (he:N9 g) {i:Nat} (hi:i < g.length) {R':List Bool} (h:YU g i (AH g.length false) R'):R'=Xt g i:=by
 have hl:R'.length=g.length:=by rw [h.len];simp
 have hf:∀k:Nat,(AH g.length false)[k]?≠some true:=fun k hk=>by
  rw [List.getElem?_replicate] at hk;split at hk<;>cases hk
 have hc:∀a b,Reach g a b→R'[a]?=some true→R'[b]?=some true:=fun a b hr=>by
  induction hr with
  |refl=>exact id
  |step hw _ ih=>
   intro ha
   rcases h.new _ ha with h1|⟨_,h2⟩
   · exact absurd h1 (hf _)
   · exact ih (h2 _ hw)
 apply Fq
 intro k
 by_cases hk:k < g.length
 · have hR:R'[k]?=some R'[k]:=by simp [hl,hk]
   rw [Xt,Ag,DC hk,Bs,hR]
   congr 1
   rw [Af,OQ]
   constructor
   · intro ht
     rw [ht] at hR
     rcases h.new k hR with h1|h1
     · exact absurd h1 (hf k)
     · exact h1.1
   · intro hr
     have:=hc i k hr h.self
     rw [hR] at this
     exact Option.some.inj this
 · rw [BI (by omega),BI (by simp [Xt];omega)]
def unm (R:List Bool):Nat:=(R.filter (fun b=>!b)).length
theorem aH:∀ {R:List Bool} {v:Nat},R[v]?=some false→unm (R.set v true)+1=unm R
 |[],v,h=>by simp at h
 |b::R,0,h=>by simp at h;subst h;simp [unm]
 |b::R,v+1,h=>by
  have:=aH (R:=R) (v:=v) (by simpa using h)
  cases b<;>simp [unm] at this ⊢<;>omega
theorem Ze:∀ {R R':List Bool},R'.length=R.length→(∀k:Nat,R[k]?=some true→R'[k]?=some true)→unm R'≤unm R
 |[],[],_,_=>A0 _
 |[],_::_,h,_=>by simp at h
 |_::_,[],h,_=>by simp at h
 |b::R,c::R',h,hm=>by
  have:=Ze (R:=R) (R':=R') (by simpa using h) (fun k hk=>by simpa using hm (k+1) (by simpa using hk))
  have h0:=hm 0
  cases b<;>cases c<;>simp [unm] at this h0 ⊢<;>omega
end Go.Ab
namespace Go.Ab
def lsB (ls:List Bool) (k:Nat):Bool:=ls.getD k false
noncomputable def FI (g:List (List Nat)) (i k:Nat):Bool:=rB g i k&&rB g k i
noncomputable def Oy (g:List (List Nat)) (i:Nat):List Nat:=(An g.length).filter (FI g i)
noncomputable def V5 (g:List (List Nat)) (ls:List Bool) (i:Nat):Bool:=(An g.length).all fun j=>!((rB g i j&& !rB g j i)&& !lsB ls j)
noncomputable def Rl (g:List (List Nat)) (i:Nat) (ls:List Bool) (j:Nat):List Bool:=(An g.length).map fun k=>lsB ls k||(decide (k < j)&&FI g i k)
noncomputable def OM (g:List (List Nat)) (i:Nat) (ls:List Bool):List Bool:=Rl g i ls g.length
noncomputable def Pq (g:List (List Nat)) (ls:List Bool) (i:Nat):Bool:=!lsB ls i&&V5 g ls i
noncomputable def Wm (g:List (List Nat)) (ls:List Bool):Option Nat:=(An g.length).find? (Pq g ls)
noncomputable def G7 (g:List (List Nat)):Nat→List Bool→List (List Nat)
 |0,_=>[]
 |f+1,ls=>match Wm g ls with
  |none=>[]
  |some i=>Oy g i::G7 g f (OM g i ls)
noncomputable def H6 (g:List (List Nat)):List (List Nat):=G7 g (g.length+1) (AH g.length false)
theorem Hg (g:List (List Nat)) (i:Nat) (ls:List Bool) (j:Nat):(Rl g i ls j).length=g.length:=by simp [Rl]
theorem K1 (g:List (List Nat)) (i:Nat) (ls:List Bool) (j:Nat) {k:Nat} (hk:k < g.length):(Rl g i ls j)[k]?=some (lsB ls k||(decide (k < j)&&FI g i k)):=by
 rw [Rl,Ag,DC hk];rfl
theorem cR {g:List (List Nat)} {i:Nat} {ls:List Bool} (h:ls.length=g.length):Rl g i ls 0=ls:=by
 apply Fq
 intro k
 by_cases hk:k < g.length
 · rw [K1 g i ls 0 hk]
   have:ls[k]?=some ls[k]:=by simp [h,hk]
   rw [this]
   simp [lsB,Ap,this]
 · rw [BI (by rw [Hg];omega),BI (by omega)]
theorem cQ {g:List (List Nat)} {i:Nat} {ls:List Bool} {j:Nat} (hj:j < g.length):Rl g i ls (j+1)=if FI g i j then (Rl g i ls j).set j true else Rl g i ls j:=by
 apply Fq
 intro k
 by_cases hk:k < g.length
 · rw [K1 g i ls _ hk]
   cases hm:FI g i j with
   |true=>
    rw [if_pos rfl,BW]
    by_cases hjk:j=k
    · subst hjk
      rw [if_pos rfl,if_pos (by rw [Hg];exact hj)]
      simp [hm]
    · rw [if_neg hjk,K1 g i ls _ hk]
      have:decide (k < j+1)=decide (k < j):=decide_eq_decide.2 (by omega)
      rw [this]
   |false=>
    rw [if_neg (by simp),K1 g i ls _ hk]
    by_cases hjk:j=k
    · subst hjk;simp [hm]
    · have:decide (k < j+1)=decide (k < j):=decide_eq_decide.2 (by omega)
      rw [this]
 · have hl:(if FI g i j=true then (Rl g i ls j).set j true else Rl g i ls j).length=g.length:=by
    split
    · rw [List.length_set,Hg]
    · rw [Hg]
   rw [BI (by rw [Hg];omega),BI (by omega)]
theorem cS (g:List (List Nat)) (i:Nat):FI g i i=true:=by
 simp [FI,OQ.2 (Reach.refl i)]
theorem Mi {ls:List Bool} {k:Nat} {b:Bool} (h:ls[k]?=some b):lsB ls k=b:=by simp [lsB,Ap,h]
theorem g9:∀ {R R':List Bool} {v:Nat},R'.length=R.length→(∀k:Nat,R[k]?=some true→R'[k]?=some true)→R[v]?=some false→R'[v]?=some true→unm R' < unm R
 |[],R',v,h,hm,hv,_=>by simp at hv
 |b::R,[],v,h,_,_,_=>by simp at h
 |b::R,c::R',0,h,hm,hv,hv'=>by
  simp at hv hv';subst hv;subst hv'
  have:=Ze (R:=R) (R':=R') (by simpa using h) (fun k hk=>by simpa using hm (k+1) (by simpa using hk))
  simp [unm] at this ⊢;omega
 |b::R,c::R',v+1,h,hm,hv,hv'=>by
  have:=g9 (R:=R) (R':=R') (v:=v) (by simpa using h) (fun k hk=>by simpa using hm (k+1) (by simpa using hk)) (by simpa using hv) (by simpa using hv')
  have h0:=hm 0
  cases b<;>cases c<;>simp [unm] at this h0 ⊢<;>omega
theorem aG {g:List (List Nat)} {i:Nat} {ls:List Bool} (hl:ls.length=g.length) (hi:i < g.length) (h:lsB ls i=false):unm (OM g i ls) < unm ls:=by
 have hgi:ls[i]?=some false:=by
  have h1:ls[i]?=some ls[i]:=by simp [hl,hi]
  have:=Mi h1
  rw [h1,← this,h]
 refine g9 (v:=i) (by rw [OM,Hg,hl]) (fun k hk=>?_) hgi ?_
 · have hkl:k < g.length:=by have:=(AR.1 hk).1;omega
   rw [OM,K1 g i ls _ hkl,Mi hk];rfl
 · rw [OM,K1 g i ls _ hi,h,cS];simp [hi]
theorem iV {p:Nat→Bool} {n i:Nat} (hi:i < n) (hp:p i=true) (hn:∀k,k < i→p k=false):(An n).find? p=some i:=by
 rw [List.find?_range_eq_some]
 exact ⟨hp,by simpa using hi,fun j hj=>by simp [hn j hj]⟩
theorem bN {p:Nat→Bool} {n:Nat} (hn:∀k,k < n→p k=false):(An n).find? p=none:=by
 rw [List.find?_eq_none];intro x hx;rw [Ci] at hx;simp [hn x hx]
end Go.Ab
namespace Go.Ab
theorem UL {g:List (List Nat)} {a b:Nat}:FI g a b=true↔Reach g a b∧Reach g b a:=by simp [FI,OQ]
theorem cT {g:List (List Nat)} {a b:Nat} (h:FI g a b=true):FI g b a=true:=by
 rw [UL] at h ⊢;exact ⟨h.2,h.1⟩
theorem UM {g:List (List Nat)} {a b c:Nat} (h:FI g a b=true) (k:FI g b c=true):FI g a c=true:=by
 rw [UL] at h k ⊢;exact ⟨h.1.trans k.1,k.2.trans h.2⟩
def Cls (g:List (List Nat)) (ls:List Bool):Prop:=∀a b,a < g.length→b < g.length→FI g a b=true→lsB ls a=lsB ls b
theorem Cls.start (g:List (List Nat)):Cls g (AH g.length false):=fun a b ha hb _=>by
 have h:∀k,k < g.length→lsB (AH g.length false) k=false:=fun k hk=>Mi (by simp [hk])
 rw [h a ha,h b hb]
theorem Qu {g:List (List Nat)} {i:Nat} {ls:List Bool} {k:Nat} (hk:k < g.length):lsB (OM g i ls) k=(lsB ls k||FI g i k):=by
 have:=Mi (K1 g i ls g.length hk)
 rw [OM,this];simp [hk]
theorem Cls.mrk {g:List (List Nat)} {ls:List Bool} (h:Cls g ls) (i:Nat):Cls g (OM g i ls):=fun a b ha hb hm=>by
 rw [Qu ha,Qu hb,h a b ha hb hm]
 congr 1
 rw [Af]
 exact ⟨fun k=>UM k hm,fun k=>UM k (cT hm)⟩
end Go.Ab
namespace Go.Ab
def MM (A:List Nat) (vs:List Nat) (n:Nat):List Nat:=vs.foldl (fun l v=>l.set v n) A
theorem Ug:∀(vs A:List Nat) (n:Nat),(MM A vs n).length=A.length
 |[],_,_=>rfl
 |v::vs,A,n=>by rw [MM,List.foldl_cons];exact (Ug vs _ n).trans (by simp)
theorem dF (A vs:List Nat) (v n:Nat):MM A (vs++[v]) n=(MM A vs n).set v n:=by simp [MM]
theorem Uf:∀(vs A:List Nat) (n:Nat) {k:Nat},k < A.length→(MM A vs n).getD k 0=if k∈vs then n else A.getD k 0
 |[],A,n,k,_=>by simp [MM]
 |v::vs,A,n,k,hk=>by
  have:=Uf vs (A.set v n) n (k:=k) (by simpa using hk)
  rw [MM,List.foldl_cons]
  rw [MM] at this
  rw [this]
  by_cases h2:k∈vs
  · simp [h2]
  · by_cases h1:k=v
    · subst h1;simp [h2,Ap,hk]
    · have h3:¬v=k:=fun e=>h1 e.symm
      simp [h1,h2,h3,Ap,BW]
structure TU (g:List (List Nat)) (ls:List Bool) (A:List Nat) (n:Nat):Prop where
 len:A.length=g.length
 lsl:ls.length=g.length
 nz:∀k,k < g.length→(A.getD k 0=0↔lsB ls k=false)
 le:∀k,k < g.length→A.getD k 0≤n
 cls:Cls g ls
 cl:∀a b,a < g.length→lsB ls a=true→Reach g a b→lsB ls b=true∧A.getD b 0≤A.getD a 0
theorem TU.start (g:List (List Nat)):TU g (AH g.length false) (AH g.length 0) 0:=by
 have h:∀k,k < g.length→lsB (AH g.length false) k=false:=fun k hk=>Mi (by simp [hk])
 have h2:∀k,k < g.length→(AH g.length 0).getD k 0=0:=fun k hk=>by simp [Ap,hk]
 exact ⟨by simp,by simp,fun k hk=>by simp only [h k hk,h2 k hk],fun k hk=>by rw [h2 k hk];exact A0 _,Cls.start g,fun a b ha h1=>by rw [h a ha] at h1;cases h1⟩
theorem Zu {g:List (List Nat)} {i k:Nat}:k∈Oy g i↔k < g.length∧FI g i k=true:=by simp [Oy]
theorem bR (g:List (List Nat)) (i:Nat):(Oy g i).Nodup:=List.Pairwise.filter _ List.nodup_range
theorem TU.new {g:List (List Nat)} {ls:List Bool} {A:List Nat} {n i k:Nat} (h:TU g ls A n) (hi:i < g.length) (hc:Pq g ls i=true) (hk:k∈Oy g i):k < g.length∧A.getD k 0=0:=by
 rw [Zu] at hk
 refine ⟨hk.1,(h.nz k hk.1).2 ?_⟩
 rw [← h.cls i k hi hk.1 hk.2]
 simp only [Pq,AP,B1] at hc
 exact hc.1
theorem TU.next {g:List (List Nat)} (he:N9 g) {ls:List Bool} {A:List Nat} {n i:Nat} (h:TU g ls A n) (hi:i < g.length) (hc:Pq g ls i=true):TU g (OM g i ls) (MM A (Oy g i) (n+1)) (n+1):=by
 have hg:∀k,k < g.length→(MM A (Oy g i) (n+1)).getD k 0=if k∈Oy g i then n+1 else A.getD k 0:=fun k hk=>Uf _ _ _ (by rw [h.len];exact hk)
 have hm:∀k,k < g.length→(k∈Oy g i↔FI g i k=true):=fun k hk=>by rw [Zu];exact ⟨fun x=>x.2,fun x=>⟨hk,x⟩⟩
 simp only [Pq,AP,B1] at hc
 have hrd:∀j,j < g.length→rB g i j=true→rB g j i=false→lsB ls j=true:=fun j hj h1 h2=>by
  have:=hc.2
  rw [V5,Ah] at this
  have:=this j (Ci.2 hj)
  rw [h1,h2] at this
  simpa using this
 have hnew:∀k,k < g.length→FI g i k=true→lsB ls k=false:=fun k hk hmk=>by rw [← h.cls i k hi hk hmk];exact hc.1
 refine ⟨by rw [Ug,h.len],by rw [OM,Hg],fun k hk=>?_,fun k hk=>?_,h.cls.mrk i,fun a b ha h1 hr=>?_⟩
 · rw [hg k hk,Qu hk]
   by_cases hmk:FI g i k=true
   · rw [if_pos ((hm k hk).2 hmk),hmk];simp
   · rw [if_neg (fun x=>hmk ((hm k hk).1 x)),CU.2 hmk,GZ];exact h.nz k hk
 · rw [hg k hk]
   split
   · exact A0 _
   · exact BS (h.le k hk) (Nat.le_succ n)
 · have hb:=hr.lt he ha
   rw [Qu hb,hg a ha,hg b hb]
   rw [Qu ha] at h1
   by_cases hma:FI g i a=true
   · rw [if_pos ((hm a ha).2 hma)]
     have hib:rB g i b=true:=OQ.2 ((UL.1 hma).1.trans hr)
     by_cases hmb:FI g i b=true
     · rw [if_pos ((hm b hb).2 hmb),hmb];simp
     · rw [if_neg (fun x=>hmb ((hm b hb).1 x))]
       have hbi:rB g b i=false:=by
        rw [CU];intro hx;exact hmb (by rw [FI,hib,hx];rfl)
       refine ⟨by rw [hrd b hb hib hbi];rfl,BS (h.le b hb) (Nat.le_succ n)⟩
   · rw [CU.2 hma,GZ] at h1
     have ⟨c1,c2⟩:=h.cl a b ha h1 hr
     have hmb:¬FI g i b=true:=fun hx=>by have:=hnew b hb hx;rw [c1] at this;cases this
     rw [if_neg (fun x=>hma ((hm a ha).1 x)),if_neg (fun x=>hmb ((hm b hb).1 x)),c1]
     exact ⟨rfl,c2⟩
theorem gD {g:List (List Nat)} {ls:List Bool}:∀(N k:Nat),((An g.length).filter (rB g k)).length=N→k < g.length→lsB ls k=false→∃i,Wm g ls=some i:=by
 intro N
 induction N using Nat.strongRecOn with
 |_ N ih=>
 intro k hN hk hl
 by_cases hr:V5 g ls k=true
 · cases hn:Wm g ls with
   |some i=>exact ⟨i,rfl⟩
   |none=>
    rw [Wm,List.find?_eq_none] at hn
    have:=hn k (Ci.2 hk)
    rw [Pq,hl,hr] at this
    simp at this
 · rw [V5,Ah] at hr
   simp only [Ci,B1,Classical.not_forall] at hr
   obtain ⟨j,hj,hj2⟩:=hr
   simp only [Bool.not_eq_false,AP,B1] at hj2
   obtain ⟨⟨h1,h2⟩,h3⟩:=hj2
   refine ih _ ?_ j rfl hj h3
   rw [← hN]
   have hsub:∀x,rB g j x=true→rB g k x=true:=fun x hx=>OQ.2 ((OQ.1 h1).trans (OQ.1 hx))
   have h4:k∈(An g.length).filter (rB g k):=On.2 ⟨Ci.2 hk,OQ.2 (Reach.refl k)⟩
   have h5:k ∉ (An g.length).filter (rB g j):=fun hx=>by have:=(On.1 hx).2;rw [h2] at this;cases this
   have h6:((An g.length).filter (rB g j))=((An g.length).filter (rB g k)).filter (rB g j):=by
    rw [List.filter_filter]
    apply List.filter_congr
    intro x _
    by_cases hx:rB g j x=true
    · rw [hx,hsub x hx];rfl
    · rw [CU.2 hx];rfl
   rw [h6]
   refine Nat.lt_of_le_of_ne (F6 _ _) (fun e=>?_)
   have:=List.length_filter_eq_length_iff.1 e
   have:=this k h4
   rw [h2] at this;cases this
theorem cZ {g:List (List Nat)} {ls:List Bool} {i:Nat} (h:Wm g ls=some i):i < g.length∧Pq g ls i=true:=
 ⟨Ci.1 (List.mem_of_find?_eq_some h),List.find?_some h⟩
theorem Ye {g:List (List Nat)} {ls:List Bool} {f:Nat} (hf:unm ls < f) (h:G7 g f ls=[]):∀k,k < g.length→lsB ls k=true:=by
 intro k hk
 cases f with
 |zero=>omega
 |succ f=>
  cases hl:lsB ls k with
  |true=>rfl
  |false=>
   obtain ⟨i,hi⟩:=gD _ k rfl hk hl
   rw [G7,hi] at h
   cases h
theorem XR {g:List (List Nat)} {ls:List Bool} {f:Nat} (hl:ls.length=g.length) (hf:unm ls < f) {l:List Nat} {r:List (List Nat)} (h:G7 g f ls=l::r):∃i f',i < g.length∧Pq g ls i=true∧l=Oy g i∧r=G7 g f' (OM g i ls)∧unm (OM g i ls) < f':=by
 cases f with
 |zero=>omega
 |succ f=>
  rw [G7] at h
  cases hn:Wm g ls with
  |none=>rw [hn] at h;cases h
  |some i=>
   rw [hn] at h
   obtain ⟨h1,h2⟩:=cZ hn
   simp only [List.cons.injEq] at h
   obtain ⟨e1,e2⟩:=h
   refine ⟨i,f,h1,h2,e1.symm,e2.symm,?_⟩
   have h3:lsB ls i=false:=by simp only [Pq,AP,B1] at h2;exact h2.1
   have:=aG hl h1 h3
   omega
theorem TU.fin {g:List (List Nat)} {ls:List Bool} {A:List Nat} {n:Nat} (h:TU g ls A n) (hall:∀k,k < g.length→lsB ls k=true):(∀a,a < g.length→A.getD a 0≠0)∧∀a b,a < g.length→b∈g.getD a []→A.getD b 0≤A.getD a 0:=
 ⟨fun a ha e=>(by have:=(h.nz a ha).1 e;rw [hall a ha] at this;cases this),fun a b ha hb=>(h.cl a b ha (hall a ha) (Reach.one hb)).2⟩
end Go.Ab
namespace Go.Ab
open Go.RowKit
variable {P:Program} {K:CV} {F:Fm} {L:Lm} {σ:AF}
theorem Xn {s:Nat} {v:AV} (h:F s=v):put s v F=F:=by
 funext t
 simp only [put]
 split
 · rename_i e;rw [← h];first|(subst e;rfl)|(rw [e])
 · rfl
theorem Ce {d:Option Nat} {o:O} {s:Nat} {want b:Bool} {r:List Q} (hF:F s= .d (.bool b))
 (h1:b=true→BR P K (⟨d,o,some (s,want)⟩::r) (put s (.d (.bool true)) F) L σ) (h2:b=false→BR P K (⟨d,o,some (s,want)⟩::r) (put s (.d (.bool false)) F) L σ):
 BR P K (⟨d,o,some (s,want)⟩::r) F L σ:=by
 cases b
 · have:=h2 rfl;rw [Xn hF] at this;exact this
 · have:=h1 rfl;rw [Xn hF] at this;exact this
theorem AI.det {d:Option Nat} {f:FuncId} {args:List AV} {v:AV} (h:AL P f args σ (fun v' σ'=>v'=v∧σ'=σ)) (hk:K (Ar d v F) L σ) (hn:args.all AV.BY=true:=by rfl):AI P f args d K F L σ:=
 AI.mk hn h (fun v' σ' ⟨e1,e2⟩=>by subst e1;subst e2;exact hk)
theorem wrap_add {a b:Nat} (h:a+b≤9000000000000000000):IntKind.i64.wrap ((a:Int)+(b:Int))=((a+b:Nat):Int):=by
 rw [BL (by omega) (by omega)];omega
theorem A5 {a:Nat} (h:a+1≤9000000000000000000):IntKind.i64.wrap ((a:Int)+1)=((a+1:Nat):Int):=by
 rw [BL (by omega) (by omega)];omega
theorem Ac {i n:Nat} (h:i < n):decide ((i:Int) < (n:Int))=true:=by simp [h]
theorem Bi {i n:Nat} (h:¬i < n):decide ((i:Int) < (n:Int))=false:=by simp;omega
theorem Cm {s:List UInt8} {i:Nat} {b:UInt8} (h:s[i]?=some b) (k:IntKind):Uk (.d (.str s)) (.d (.int k (i:Int)))=some (.d (.int .u8 b.toNat)):=by
 simp [Uk,h]
theorem Wx {s:List UInt8} {n:Nat} (h:n≤s.length):OZ (.d (.str s)) none (some (.d (.int .i64 (n:Int))))=some (.d (.str (s.take n))):=by
 simp [OZ,Sb,PC,h]
theorem gZ {s:List UInt8} {n:Nat} (h:n≤s.length):OZ (.d (.str s)) (some (.d (.int .i64 (n:Int)))) none=some (.d (.str (s.drop n))):=by
 simp [OZ,Sb,PC,h]
theorem gY {s:List UInt8} {n m:Nat} (h:n≤m) (h2:m≤s.length):OZ (.d (.str s)) (some (.d (.int .i64 (n:Int)))) (some (.d (.int .i64 (m:Int))))=some (.d (.str ((s.take m).drop n))):=by
 simp [OZ,Sb,PC,h,h2]
theorem kY {b c:UInt8} {s:List UInt8}:OZ (.d (.str (b::c::s))) none (some (.d (.int .i64 2)))=some (.d (.str [b,c])):=by
 rw [show (2:Int)=((2:Nat):Int) from rfl,Wx (by simp)];rfl
theorem kX {b:UInt8} {s:List UInt8}:OZ (.d (.str (b::s))) none (some (.d (.int .i64 1)))=some (.d (.str [b])):=by
 rw [show (1:Int)=((1:Nat):Int) from rfl,Wx (by simp)];rfl
theorem jY (b x:UInt8):((b.toNat:Int)==(x.toNat:Int))=(b==x):=by
 rw [Af];simp only [beq_iff_eq,Int.natCast_inj,UInt8.toNat_inj]
theorem Run.MF {cx:Cx} {KK:AV→AF→Prop} {k:List CI} (ks:List Nat) (h:Run cx KK k (ME ks F) (IS ks L) σ):Run cx KK k F L σ:=
 fun items base g lam Pr a w0 w b cs hi hf hb hk=>h items base g lam Pr a w0 w b cs hi (hf.kept ks) hb hk
def ctl (bl:Bool):List CI→Option (List CI)
 | .code .skip::k=>some k
 | .code (.seq x y)::k=>some (.code x::.code y::k)
 | .code (.block i c)::k=>if bl then some (.code c::.blk i::k) else none
 | .code (.scope c)::k=>some (.code c::.scp::k)
 | .blk _::k=>some k
 | .scp::k=>some k
 | .code (.exit i)::k=>Qj i k
 |_=>none
theorem Run.ctB {cx:Cx} {KK:AV→AF→Prop} (bl:Bool) {k k':List CI} (e:ctl bl k=some k') (h:Run cx KK k' F L σ):Run cx KK k F L σ:=by
 unfold ctl at e
 split at e
 · cases e;exact Run.skip h
 · cases e;exact Run.seq h
 · split at e
   · cases e;exact Run.block h
   · cases e
 · cases e;exact Run.scope h
 · cases e;exact Run.blk h
 · cases e;exact Run.scp h
 · exact Run.exit e h
 · cases e
theorem Run.ct {cx:Cx} {KK:AV→AF→Prop} {k k':List CI} (e:ctl true k=some k') (h:Run cx KK k' F L σ):Run cx KK k F L σ:=Run.ctB true e h
theorem Run.cb {cx:Cx} {KK:AV→AF→Prop} {k k':List CI} (e:ctl false k=some k') (h:Run cx KK k' F L σ):Run cx KK k F L σ:=Run.ctB false e h
attribute [go_sem] Nat.reduceEqDiff Nat.reduceBEq Nat.reduceAdd Nat.reduceLeDiff reduceIte reduceCtorEq
attribute [go_sem] Vo oG tyA Ty.enc Ty.JV eq_self B1 Bool.not_eq_false'
end Go.Ab
namespace Go.Ab
structure Con where
 name:List UInt8
 args:List Ty
structure Dat where
 name:List UInt8
 vars:Int
 cons:List Con
def Con.enc (c:Con):List DV:=[.str c.name,.sl (Ty.JV c.args)]
def Dat.enc (d:Dat):List DV:=[.str d.name,.int .i64 d.vars,.sl (d.cons.map Con.enc)]
def dsA (l:List Dat):AV:= .d (.sl (l.map Dat.enc))
theorem M6 {l:List Con} {i:Nat} {x:Con} (h:l[i]?=some x):(l.map Con.enc)[i]?=some [.str x.name,.sl (Ty.JV x.args)]:=by
 rw [Ag,h];rfl
theorem M8 {l:List Dat} {i:Nat} {x:Dat} (h:l[i]?=some x):(l.map Dat.enc)[i]?=some [.str x.name,.int .i64 x.vars,.sl (x.cons.map Con.enc)]:=by
 rw [Ag,h];rfl
theorem GO (l:List Ty) (i:Nat):Ty.A2 (l.take i)≤Ty.A2 l:=by
 have:=Bz (l.take i) (l.drop i)
 rw [A3] at this;omega
theorem Ie {a:Nat} (h:a≤9000000000000000000):IntKind.i64.wrap (((a+1:Nat):Int) - 1)=(a:Int):=by
 rw [BL (by omega) (by omega)];omega
theorem Run.iX {cx:Cx} {KK:AV→AF→Prop} {k:List CI} {F:Fm} {L:Lm} {σ σ':AF} (e:σ'=σ) (h:Run cx KK k F L σ'):Run cx KK k F L σ:=e ▸ h
theorem Run.ZI {cx:Cx} {KK:AV→AF→Prop} {k:List CI} {c:C} {F:Fm} {L:Lm} {σ:AF} {α:Type} (ks:List Nat) (Fs:α→Fm) (Ls:Lm) (σs:AF) (I:α→Prop) (h2:∀a,I a→Run cx KK k (Fs a) Ls σs)
 (h1:(∀(F':Fm) (L':Lm) (a:α),ME ks F'=Fs a→IS ks L'=Ls→I a→Run cx KK k F' L' σs)→Run cx KK (.code c::k) F L σ):Run cx KK (.code c::k) F L σ:=
 h1 fun F' L' a hF hL hI=>Run.MF ks (by rw [hF,hL];exact h2 a hI)
theorem eB {σ:AF} {i:Nat} {z:List AV} {x:Nat×TypeId} (h:σ.blk i=none∧σ.bt i=none):σ.le ((σ.AO i z).DF i x)∧((σ.AO i z).DF i x).blk i=some z:=
 ⟨⟨fun j cs hj=>by
    have hne:j≠i:=fun e=>by rw [e,h.1] at hj;cases hj
    simp [AF.DF,AF.AO,hne,hj],fun _ h=>h,rfl,fun j y hj=>by
    have hne:j≠i:=fun e=>by rw [e,h.2] at hj;cases hj
    simp [AF.DF,AF.AO,hne,hj]⟩,by simp [AF.DF,AF.AO]⟩
theorem DH {σ σ1:AF} {i:Nat} {cs:List AV} (h:σ.le σ1) (hn:σ.blk i=none):σ.le (σ1.AO i cs):=
 ⟨fun j ds hj=>by
   have hne:j≠i:=fun e=>by rw [e,hn] at hj;cases hj
   rw [AM,if_neg hne];exact h.blk j ds hj,h.tok,h.gt,h.bt⟩
theorem BM (a b:List UInt8):Zd .eql a b=some (.d (.bool (a==b))):=rfl
theorem Cb (a b:List UInt8):Zd .neq a b=some (.d (.bool (!(a==b)))):=rfl
theorem gtN (n k:Nat):decide ((k:Int) < (n:Int))=!decide (n≤k):=by
 rw [Af];simp
theorem leN (n k:Nat):decide ((n:Int)≤(k:Int))=decide (n≤k):=decide_eq_decide.2 (by omega)
theorem ltN (n k:Nat):decide ((n:Int) < (k:Int))=decide (n < k):=decide_eq_decide.2 (by omega)
theorem nB (n k:Nat):((n:Int)==(k:Int))=(n==k):=by
 rw [Af];simp only [beq_iff_eq];omega
theorem VB (a b:Nat):((a:Int) != (b:Int))=(a != b):=by
 rw [Af];simp;omega
theorem C1 {a b:Int} (h:a≠b):(a==b)=false:=by simpa using h
end Go.Ab
