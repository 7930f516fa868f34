/- Operations that change the known state: new variables, stores, appends, new rows, calls. append onto shared rows, parts of shared rows, shared rows as literals. Conditions: none. -/
import Derived.Test.YtifplkldbbcldaaGreatDoorXAb7
set_option linter.unusedSimpArgs false
set_option linter.unusedVariables false
set_option maxRecDepth 4000
set_option maxHeartbeats 8000000
open Go renaming undef→Cs
open Array renaming getD_eq_getD_getElem?→Cr
open Nat renaming le_refl→A4,add_zero→E9,zero_add→Bd,succ_mul→Ly,pos_of_ne_zero→V1,lt_or_ge→Ea,add_assoc→NB,mul_le_mul_right→Aj,zero_le→C3,add_mul→CM,le_trans→Ay,min_eq_left→Tg
open List renaming getElem?_take→CD,append_assoc→AY,getElem?_append_left→BE,length_append→AA,getElem?_append_right→BA,getElem?_drop→BM,getElem?_eq_none→Jq,length_drop→Ah,length_take→Bj,getElem?_eq_some_iff→A3,flatten_cons→F7,length_cons→AG,range→JD,getElem?_map→BC,getElem?_range→IA,getElem?_eq_getElem→Az,getD_eq_getElem?_getD→VZ,eq_nil_of_length_eq_zero→An,getElem_of_mem→Cp,mem_append→Bb,flatten_append→Ma,length_map→AJ
open Option renaming bind_eq_some_iff→AF,map_eq_some_iff→AM
open Option.some renaming injEq→AQ
open Bool renaming true_and→Bg
namespace Go.Ab
open Go.RowKit
variable {P:Program} {base N:Nat} {g g':Gh} {Pr:Nat→Prop} {σ σ':AK} {w0 w w':World} {lam:Nat→Option Nat} {F:Fm} {L:Lm} {a:Act}
def AEJ (k:Nat) (F:Fm):Prop:=∀s off,s≠k→F s≠.lp k off
def U:Fm:=fun _=>.undef
def AV.DF (k:Nat):AV→Bool
 | .lp k' _=>k'==k
 |_=>false
def DS (k:Nat) (F:Fm):Fm:=fun s=>if (F s).DF k then .undef else F s
theorem kS (k:Nat) (F:Fm):AEJ k (DS k F):=by
 intro s off _ he
 simp only [DS] at he
 split at he
 · cases he
 · rename_i h;rw [he] at h;simp [AV.DF] at h
theorem iP (a:Act) (d s:Nat) (v:Value) (hd:d < a.tmps.size):(a.put (some d) v).tmps.getD s Cs=if s=d then v else a.tmps.getD s Cs:=by
 simp only [Act.put]
 by_cases e:s=d
 · subst e;simp [Array.getD,hd]
 · rw [if_neg e]
   simp [Cr,Array.getElem?_setIfInBounds_ne (Ne.symm e)]
theorem B2.put (h:B2 base g lam Pr N F L σ a w0 w) {d:Nat} (hd:d < N) {v:AV} {x:Value} (hv:SV g lam v x):
 B2 base g lam Pr N (put d v F) L σ (a.put (some d) x) w0 w:=by
 refine ⟨fun s=>?_,by simpa [Act.put] using h.sz,h.df,h.loc,h.inj,h.npr,h.rel⟩
 rw [iP a d s x (by rw [h.sz];exact hd)]
 simp only [Ab.put]
 split
 · exact hv
 · exact h.tm s
theorem B2.At (h:B2 base g lam Pr N F L σ a w0 w) {d:Option Nat} (hd:∀k,d=some k→k < N) {v:AV} {x:Value} (hv:SV g lam v x):
 B2 base g lam Pr N (At d v F) L σ (a.put d x) w0 w:=by
 cases d with
 |none=>exact h
 |some d=>exact h.put (hd d rfl) hv
theorem B2.vS (h:B2 base g lam Pr N F L σ a w0 w) {d:Nat} (hd:d < N) (hn:AEJ d F) {cs:List AV} {vs:Array Value} (ty:TypeId) (hr:VRs g cs vs.toList) (hok:Ag cs=true):
 B2 base g (fun k=>if k=d then some w.heap.size else lam k) Pr N (Ab.put d (.lp d 0) F) (Aq d cs L) σ (a.put (some d) (.pointer (some ⟨w.heap.size,0,none⟩))) w0 (w.alloc (.cells vs ty)):=by
 have hlt:∀k b,lam k=some b→b < w.heap.size:=fun k b hb=>h.Ie hb
 refine ⟨fun s=>?_,by simpa [Act.put] using h.sz,h.df,fun k cs' hk=>?_,fun k k' b hk hk'=>?_,fun k b hk hp=>?_,?_⟩
 · rw [iP a d s _ (by rw [h.sz];exact hd)]
   simp only [Ab.put]
   split
   · exact ⟨w.heap.size,by simp,rfl⟩
   · rename_i hs
     have ht:=h.tm s
     cases hF:F s<;>rw [hF] at ht<;>try exact ht
     rename_i k off
     have hk:k≠d:=fun e=>hn s off hs (e ▸ hF)
     obtain ⟨b,hb,he⟩:=ht
     exact ⟨b,by simp [hk,hb],he⟩
 · simp only [Aq] at hk
   split at hk
   · rename_i e
     subst e;cases hk
     exact ⟨hok,w.heap.size,vs,ty,by simp,h.rel.bs,heap_alloc_new w _,hr⟩
   · rename_i e
     obtain ⟨hok',b,vs',ty',hb,hlow,hheap,hr'⟩:=h.loc k cs' hk
     exact ⟨hok',b,vs',ty',by simp [e,hb],hlow,by rw [heap_alloc_old w _ b (hlt k b hb)];exact hheap,hr'⟩
 · by_cases e:k=d<;>by_cases e':k'=d<;>simp only [e,e',if_true,if_false] at hk hk'
   · omega
   · have:=hlt _ _ hk';cases hk;omega
   · have:=hlt _ _ hk;cases hk';omega
   · exact h.inj k k' b hk hk'
 · by_cases e:k=d
   · simp only [e,if_true] at hk;cases hk;have:=(h.rel.pr _ (.inl hp)).1;omega
   · simp only [e,if_false] at hk;exact h.npr k b hk hp
 · refine h.rel.grow (by simp) (fun b hb _=>heap_alloc_old w _ b hb) (Xh h.rel.bs) fun b hb=>?_
   rcases hb with hp|⟨k,hk⟩
   · exact ⟨by have:=(h.rel.pr b (.inl hp)).1;simp;omega,.inl (.inl hp)⟩
   · by_cases e:k=d
     · simp only [e,if_true] at hk;cases hk;exact ⟨by simp,.inr (A4 _)⟩
     · simp only [e,if_false] at hk;exact ⟨by have:=hlt k b hk;simp;omega,.inl (.inr ⟨k,hk⟩)⟩
def wr (cs:List AV) (o:Nat) (new:List AV):List AV:=cs.take o++new++cs.drop (o+new.length)
def stA (L:Lm) (σ:AK) (new:List AV):AV→Option (Lm×AK)
 | .lp k o=>(L k).bind fun cs=>if o+new.length≤cs.length then some (Aq k (wr cs o new) L,σ) else none
 | .gp i o=>(σ.blk i).bind fun cs=>if o+new.length≤cs.length then some (L,σ.AH i (wr cs o new)) else none
 |_=>none
theorem AAZ {α:Type} (arr vs:List α) (o n:Nat) (h:o+vs.length≤n) (hn:n≤arr.length):(arr.take o++vs++arr.drop (o+vs.length)).take n=(arr.take n).take o++vs++(arr.take n).drop (o+vs.length):=by
 have h1:(arr.take o).length=o:=by simp;omega
 have h2:((arr.take n).take o).length=o:=by simp;omega
 refine List.ext_getElem? fun i=>?_
 rw [CD]
 by_cases hi:i < n
 · rw [if_pos hi]
   by_cases h3:i < o
   · rw [AY,AY,BE (by omega),BE (by omega),CD,CD,CD,if_pos h3,if_pos h3,if_pos hi]
   · by_cases h4:i < o+vs.length
     · have h5:(arr.take o++vs).length=o+vs.length:=by rw [AA,h1]
       have h6:((arr.take n).take o++vs).length=o+vs.length:=by rw [AA,h2]
       rw [BE (l₁:=arr.take o++vs) (by omega),BE (l₁:=(arr.take n).take o++vs) (by omega),BA (by omega),BA (by omega),h1,h2]
     · have h5:(arr.take o++vs).length=o+vs.length:=by rw [AA,h1]
       have h6:((arr.take n).take o++vs).length=o+vs.length:=by rw [AA,h2]
       rw [BA (by omega),BA (by omega),BM,BM,CD,h5,h6,if_pos (by omega)]
 · rw [if_neg hi,Jq]
   simp only [AA,h2,Ah,Bj]
   omega
theorem V3 {b:Nat} {cs:Array Value} (hb:base≤b):Below base w (w.setRow b cs):=
 ⟨rfl,rfl,rfl,by simp,fun k hk=>setRow_other w b k cs (by omega)⟩
theorem B2.store (h:B2 base g lam Pr N F L σ a w0 w) {new:List AV} {vs:List Value} {p:AV} {pvl:Value} (hp:SV g lam p pvl) (hr:VRs g new vs) (hok:Ag new=true)
 {L':Lm} {σ':AK} (hst:stA L σ new p=some (L',σ')):
 ∃ad w',pvl= .pointer (some ad)∧(storeCells ad vs).run P w= .ok () w'∧KP Pr w w'∧B2 base g lam Pr N F L' σ' a w0 w':=by
 have hones:=hr.ADC hok
 have hlen:=hr.length
 cases p with
 |lp k o=>
  obtain ⟨b,hb,rfl⟩:=hp
  simp only [stA,AF] at hst
  obtain ⟨cs,hcs,hst⟩:=hst
  split at hst
  · rename_i hle
    cases hst
    obtain ⟨hokc,b',arr,ty,hb',hlow,hheap,hrc⟩:=h.loc k cs hcs
    rw [hb] at hb';cases hb'
    have hal:=hrc.length
    have hrun:=run_storeCells_at P b o ty vs 0 arr w hheap (by simp at hal;omega) hones
    simp only [E9] at hrun
    refine ⟨_,_,rfl,hrun,⟨by simp,fun b2 hp2=>setRow_other w b b2 _ (fun e=>h.npr k b hb (e ▸ hp2))⟩,?_⟩
    refine ⟨h.tm,h.sz,h.df,fun k2 cs2 hk2=>?_,h.inj,h.npr,?_⟩
    · simp only [Aq] at hk2
      split at hk2
      · rename_i e
        subst e;cases hk2
        refine ⟨by simp [wr,Fo,Me _ hokc,QF _ hokc,hok],b,_,ty,hb,hlow,setRow_heap w b arr _ ty _ hheap,?_⟩
        simp only [wr,hlen]
        exact ((hrc.take o).append hr).append (hrc.drop _)
      · rename_i e
        obtain ⟨hok2,b2,vs2,ty2,hb2,hlow2,hheap2,hr2⟩:=h.loc k2 cs2 hk2
        exact ⟨hok2,b2,vs2,ty2,hb2,hlow2,by rw [setRow_other w b b2 _ (fun e'=>e (h.inj k2 k b (e' ▸ hb2) hb))];exact hheap2,hr2⟩
    · exact h.rel.grow (by simp) (fun b2 _ hn=>setRow_other w b b2 _ (fun e=>hn (.inr ⟨k,e ▸ hb⟩))) (V3 hlow)
       (fun b2 hb2=>⟨by have:=(h.rel.pr b2 hb2).1;simpa using this,.inl hb2⟩)
  · cases hst
 |gp i o=>
  simp only [stA,AF] at hst
  obtain ⟨cs,hcs,hst⟩:=hst
  split at hst
  · rename_i hle
    cases hst
    obtain ⟨b,hm,ho⟩:=h.rel.shr i cs hcs
    obtain ⟨arr,ty,hheap,hle0,hrt,hrc⟩:=ho.row
    cases hp with
    |gp hm'=>
     rw [hm] at hm';cases hm'
     have hrun:=run_storeCells_at P b o ty vs 0 arr w hheap (by omega) hones
     simp only [E9] at hrun
     have hpr:¬(Pr b∨∃k,lam k=some b):=ho.pr
     refine ⟨_,_,rfl,hrun,⟨by simp,fun b2 hp2=>setRow_other w b b2 _ (fun e=>hpr (.inl (e ▸ hp2)))⟩,?_⟩
     refine h.step (Gh.le_refl g) (fun k b2 hk=>setRow_other w b b2 _ (fun e=>hpr (.inr ⟨k,e ▸ hk⟩))) ?_
     have hwl:(wr cs o new).length=cs.length:=by simp [wr];omega
     refine h.rel.write hcs hm (by simp) (fun k _ hk=>setRow_other w b k _ hk) (V3 ho.low) (setRow_heap w b arr _ ty _ hheap) (by rw [hwl];simp;omega) (fun t ht=>⟨by rw [← (hrt t ht).1];simp;omega,(hrt t ht).2⟩) ?_ (by simp [wr,Fo,Me _ ho.ok,QF _ ho.ok,hok])
     rw [hwl]
     have e:=AAZ arr.toList vs o cs.length (by omega) (by simpa using hle0)
     simp only [List.toList_toArray]
     rw [e]
     simp only [wr,hlen]
     exact ((hrc.take o).append hr).append (hrc.drop _)
  · cases hst
 |_=>simp [stA] at hst
def QA (σ:AK) (e size:Nat):AV→Option (List (List DV)×AK)
 | .AO=>some ([],σ)
 | .own t e' s' rows=>if e'=e∧s'=size∧σ.tok t=true then some (rows,σ.FL t) else none
 |_=>none
theorem Z8 {size:Nat}:∀(rows:List (List DV)),(∀r∈rows,r.length=size)→∀(i j:Nat) (r:List DV) (x:DV),rows[i]?=some r→r[j]?=some x→(rows.flatten)[i * size+j]?=some x
 |[],_,i,j,r,x,hi,_=>by simp at hi
 |r0::rows,hs,0,j,r,x,hi,hj=>by
  simp at hi;subst hi
  have:=(A3.1 hj).1
  simp only [Nat.zero_mul,Bd,F7]
  rw [BE this];exact hj
 |r0::rows,hs,i+1,j,r,x,hi,hj=>by
  have h0:r0.length=size:=hs r0 (by simp)
  simp only [F7]
  rw [BA (by rw [h0,Ly];omega),h0]
  have:(i+1) * size+j - size=i * size+j:=by rw [Ly];omega
  rw [this]
  exact Z8 rows (fun r hr=>hs r (by simp [hr])) i j r x (by simpa using hi) hj
theorem Em {size:Nat}:∀(rows:List (List DV)),(∀r∈rows,r.length=size)→rows.flatten.length=rows.length * size
 |[],_=>by simp
 |r0::rows,hs=>by
  simp only [F7,AA,AG,Ly]
  rw [Em rows (fun r hr=>hs r (by simp [hr])),hs r0 (by simp)];omega
theorem RD.cellsOf {im:Nat→Nat→Option Value} {rows:List (List DV)} {size:Nat} (hs:∀r∈rows,r.length=size) {b off len cap:Nat}
 (h:RD im (.sl rows) (.slice (some ⟨b,off,none⟩) len cap)) (h0:0 < rows.length):∃vs:List Value,vs.length=rows.length * size∧len=rows.length∧
   (∀(j:Nat) (u:Value),vs[j]?=some u→im b (off+j)=some u)∧(∀(j:Nat) (x:DV),rows.flatten[j]?=some x→∃v,vs[j]?=some v∧RD im x v):=by
 cases h with
 |nil=>simp at h0
 |@sl _ _ _ _ size' f hc hm hs' hi hr=>
  have hsz:size'=size:=by
   obtain ⟨r,hr⟩:∃r,r∈rows:=by cases rows with|nil=>simp at h0|cons r _=>exact ⟨r,by simp⟩
   rw [← hs r hr,hs' r hr]
  subst hsz
  by_cases hz:size'=0
  · subst hz
    refine ⟨[],by simp,rfl,by simp,fun j x hx=>?_⟩
    have:=Em rows hs
    have:=(A3.1 hx).1
    omega
  have hpos:0 < size':=V1 hz
  refine ⟨(JD (rows.length * size')).map fun j=>f (j / size') (j % size'),by simp,rfl,fun j u hj=>?_,fun j x hx=>?_⟩
  · rw [BC,AM] at hj
    obtain ⟨j',hj',rfl⟩:=hj
    have hlt:j < rows.length * size':=by
     rcases Ea j (rows.length * size') with h1|h1
     · exact h1
     · simp [h1] at hj'
    rw [IA hlt] at hj';cases hj'
    have h1:j / size' < rows.length:=(Nat.div_lt_iff_lt_mul hpos).2 hlt
    have h2:j % size' < size':=Nat.mod_lt _ hpos
    have:=hi (j / size') (j % size') h1 h2
    rw [NB,Nat.mul_comm,Nat.div_add_mod] at this
    exact this
  · have hlt:j < rows.length * size':=by rw [← Em rows hs];exact (A3.1 hx).1
    refine ⟨f (j / size') (j % size'),by rw [BC,IA hlt];rfl,?_⟩
    have h1:j / size' < rows.length:=(Nat.div_lt_iff_lt_mul hpos).2 hlt
    have h2:j % size' < size':=Nat.mod_lt _ hpos
    have hrow:rows[j / size']?=some rows[j / size']:=by simp [h1]
    have hcell:(rows[j / size'])[j % size']?=some ((rows[j / size'])[j % size']'(by rw [hs' _ (List.getElem_mem h1)];exact h2)):=by
     have hh:j % size' < (rows[j / size']).length:=by rw [hs' _ (List.getElem_mem h1)];exact h2
     simp [hh]
    have:=Z8 rows hs' _ _ _ _ hrow hcell
    rw [Nat.mul_comm,Nat.div_add_mod,hx] at this
    cases this
    exact hr _ _ _ _ hrow hcell
theorem RD.mQ {im:Nat→Nat→Option Value} {rows:List (List DV)} {size b off cap:Nat} {ys:List Value} (hs:∀r∈rows,r.length=size) (hc:rows.length≤cap) (hm:cap≤maxLen)
 (hl:ys.length=rows.length * size) (him:∀(j:Nat) (u:Value),ys[j]?=some u→im b (off+j)=some u)
 (hr:∀(j:Nat) (x:DV),rows.flatten[j]?=some x→∃v,ys[j]?=some v∧RD im x v):RD im (.sl rows) (.slice (some ⟨b,off,none⟩) rows.length cap):=by
 refine .sl (size:=size) (f:=fun i j=>ys.getD (i * size+j) (.bool false)) hc hm hs (fun i j hi hj=>?_) (fun i r j x hi hj=>?_)
 · have:i * size+size≤rows.length * size:=by rw [← Ly];exact Aj _ hi
   have hlt:i * size+j < ys.length:=by omega
   rw [NB]
   exact him _ _ (by simp [Az hlt])
 · obtain ⟨v,hv,hrd⟩:=hr _ _ (Z8 rows hs i j r x hi hj)
   rw [VZ,hv]
   exact hrd
theorem pG {e size n:Nat} {v:Value} {xs:List Value} (h:w.ownsRow base e size v n xs) {rows:List (List DV)} {im:Nat→Nat→Option Value} (hr:RD im (.sl rows) v):n=rows.length:=by
 obtain ⟨ad,cap,rfl,_⟩:=hr.Kn
 rcases h.2 with ⟨he,rfl⟩|⟨gg,cap',cur,he,_⟩
 · simp only [Value.slice.injEq] at he;exact he.2.1.symm
 · simp only [Value.slice.injEq] at he;exact he.2.1.symm
theorem qG {t ty e:TypeId} {i:TypeInfo} {z:Value} (ht:P.underlying t=some (.slice e)) (hi:P.info? e=some i) (hz:i.zero=some z) (hzs:z.cells.size=i.size)
 (h:B2 base g lam Pr N F L σ a w0 w) {p q:AV} {pvl qvl:Value} (hp:SV g lam p pvl) (hq:SV g lam q qvl) {rows srows:List (List DV)} {σ1:AK}
 (hpa:QA σ e i.size p=some (rows,σ1)) (hqr:q.rows=some srows) (hss:∀r∈srows,r.length=i.size)
 (h63:rows.length+srows.length≤maxLen) (hby:(rows.length+srows.length) * i.bytes≤140737488355328):
 ∃x g' w' t',(Builtin.append_ #[t,t] ty #[pvl,qvl]).run P w= .ok x w'∧g.le g'∧KP Pr w w'∧σ.tok t'=false∧VR g' (.own t' e i.size (rows++srows)) x∧
  B2 base g' lam Pr N F L (σ1.CO t') a w0 w':=by
 obtain ⟨t',_,htau,_,htok⟩:=h.rel.fresh
 -- the owner
 have hmine:∃xs,cE base g (fun b=>Pr b∨∃k,lam k=some b) σ1 w e i.size pvl rows.length xs∧σ1.le σ∧(∀r∈rows,r.length=i.size)∧
  (∀(j:Nat) (x:DV),rows.flatten[j]?=some x→∃v,xs[j]?=some v∧RD g.im x v):=by
  unfold QA at hpa
  split at hpa
  · cases hpa;cases hp
    exact ⟨[],cE.nil _ _ _ _ _ _ _,AK.le_refl _,by simp,by simp⟩
  · split at hpa
    · rename_i hcond
      obtain ⟨rfl,rfl,htk⟩:=hcond
      cases hpa
      cases hp with
      |own hrd htau2 hsz=>
       obtain ⟨n,xs,hm⟩:=h.rel.ADA htk htau2
       have hn:=pG hm.1 hrd
       subst hn
       refine ⟨xs,hm,AK.Wj _ _,hsz,fun j x hx=>?_⟩
       have hpos:0 < rows.length:=by cases rows with|nil=>simp at hx|cons=>simp
       rcases hm.1.2 with ⟨_,h0⟩|⟨gg,cap,cur,rfl,hbg,hgg,_⟩
       · omega
       obtain ⟨vs,hvl,_,hvi,hvr⟩:=RD.cellsOf hsz hrd hpos
       obtain ⟨v,hv,hrdv⟩:=hvr j x hx
       refine ⟨v,?_,hrdv⟩
       have hlt:j < xs.length:=by rw [hm.1.1,← hvl];exact (A3.1 hv).1
       have h1:=h.rel.im _ _ _ (hvi j v hv)
       have h2:=hm.1.cells (g:=gg) rfl j xs[j] (by simp [hlt])
       rw [Addr.add_lit,Bd] at h2
       rw [Bd] at h1
       rw [h1] at h2;cases h2
       simp [hlt]
    · cases hpa
  · cases hpa
 obtain ⟨xs,hmine,hle1,hsz,hxs⟩:=hmine
 -- the source
 have hsrc:∃(m:Nat) (news:List Value) (v':Value) (w':World),(Builtin.append_ #[t,t] ty #[pvl,qvl]).run P w= .ok v' w'∧m=srows.length∧news.length=m * i.size∧
  w'.ownsRow base e i.size v' (rows.length+m) (xs++news)∧w.grownBy w' v'.ownBlock∧(∀k,v'.ownBlock=some k→pvl.ownBlock=some k∨w.heap.size≤k)∧
  (∀(j:Nat) (x:DV),srows.flatten[j]?=some x→∃v,news[j]?=some v∧RD g.im x v):=by
  have hqd:RD g.im (.sl srows) qvl:=by
   cases q with
   |d x=>cases x<;>simp only [AV.rows,AQ] at hqr<;>try (cases hqr;done)
         subst hqr;cases hq with|d h=>exact h
   |AO=>simp only [AV.rows,AQ] at hqr;subst hqr;cases hq;exact .nil (C3 _) (fun _=>rfl)
   |own _ _ _ _=>simp only [AV.rows,AQ] at hqr;subst hqr;cases hq with|own h _ _=>exact h
   |clip _=>simp only [AV.rows,AQ] at hqr;subst hqr;cases hq with|clip h=>exact h
   |_=>cases hqr
  by_cases h0:srows.length=0
  · have hnil:srows=[]:=An h0
    subst hnil
    cases hqd with
    |@nil ad cap hcm hcap=>
     cases ad with
     |none=>
      have:=hcap rfl;subst this
      refine ⟨0,[],pvl,w,run_append_owned_none w base t ty e i i.size ht hi pvl rows.length xs hmine.1,rfl,by simp,by simpa using hmine.1,⟨rfl,rfl,rfl,A4 _,fun _ _ _=>rfl⟩,fun k hk=>.inl hk,by simp⟩
     |some ad=>
      obtain ⟨v',w',h1,h2,h3,h4⟩:=E8 (P:=P) w base t ty e i z i.size i.bytes ht hi hz rfl rfl hzs pvl rows.length xs hmine.1 ad 0 cap [] (by simp) (by simp) (by simp) (by simpa using h63) (by simpa using hby) h.rel.bs
      exact ⟨0,[],v',w',h1,rfl,by simp,h2,h3,h4,by simp⟩
    |sl hc hm hs hi hr=>
     obtain ⟨v',w',h1,h2,h3,h4⟩:=E8 (P:=P) w base t ty e i z i.size i.bytes ht ‹_› hz rfl rfl hzs pvl rows.length xs hmine.1 _ 0 _ [] (by simp) (by simp) (by simp) (by simpa using h63) (by simpa using hby) h.rel.bs
     exact ⟨0,[],v',w',h1,rfl,by simp,h2,h3,h4,by simp⟩
  · obtain ⟨ad,cap,rfl,_⟩:=hqd.Kn
    have hpos:0 < srows.length:=V1 h0
    obtain ⟨b,off,rfl⟩:∃b off,ad=some ⟨b,off,none⟩:=by
     generalize hvv:(Value.slice ad srows.length cap)=vv at hqd
     cases hqd with
     |nil=>simp at hpos
     |sl=>cases hvv;exact ⟨_,_,rfl⟩
    obtain ⟨news,hnl,_,hni,hnr⟩:=RD.cellsOf hss hqd hpos
    have hones:∀u∈news,u.oneCell'=true:=by
     intro u hu
     obtain ⟨j,hj,rfl⟩:=Cp hu
     have hjf:j < srows.flatten.length:=by rw [Em srows hss,← hnl];exact hj
     obtain ⟨v,hv,hrd⟩:=hnr j srows.flatten[j] (by simp)
     have:v=news[j]:=by rw [Az hj] at hv;cases hv;rfl
     rw [← this];exact hrd.one
    obtain ⟨v',w',h1,h2,h3,h4⟩:=E8 (P:=P) w base t ty e i z i.size i.bytes ht hi hz rfl rfl hzs pvl rows.length xs hmine.1 ⟨b,off,none⟩ srows.length cap news hnl
     (fun j u hu=>by rw [Addr.add_lit];exact h.rel.im _ _ _ (hni j u hu)) hones h63 hby h.rel.bs
    exact ⟨srows.length,news,v',w',h1,rfl,hnl,h2,h3,h4,hnr⟩
 obtain ⟨m,news,v',w',hrun,rfl,hnl,hown',hgr,hwh,hnr⟩:=hsrc
 have hrel1:=h.rel.less hle1
 have hle:=hrel1.Yl (news:=news) (e:=e) (size:=i.size) (t':=t') hmine hwh htau
 have hrel':=hrel1.ACY (t':=t') hmine hown' hgr hwh htau
 have hnpr:∀b,v'.ownBlock=some b→¬(Pr b∨∃k,lam k=some b):=fun b hb=>by
  rcases hwh b hb with hvb|hge
  · exact (hmine.2 b hvb).2.1
  · intro hp;have:=(h.rel.pr b hp).1;omega
 refine ⟨v',g.grow v' e i.size t' (xs++news),w',t',hrun,hle,⟨hgr.size,fun b hb=>hgr.block b (h.rel.pr b (.inl hb)).1 (fun e'=>hnpr b e'.symm (.inl hb))⟩,htok,?_,
  h.step hle (fun k b hb=>hgr.block b (h.Ie hb) (fun e'=>hnpr b e'.symm (.inr ⟨k,hb⟩))) hrel'⟩
 have hall:∀r∈rows++srows,r.length=i.size:=fun r hr=>by
  rcases Bb.1 hr with h1|h1
  · exact hsz r h1
  · exact hss r h1
 refine .own ?_ (by simp [Gh.grow]) hall
 have hxl:xs.length=rows.length * i.size:=hmine.1.1
 rcases hown'.2 with ⟨rfl,h0⟩|⟨gg,cap,cur,rfl,hbg,hgg,hnc,hcm,_⟩
 · have:rows++srows=[]:=An (by rw [AA];exact h0)
   rw [this];exact .nil (C3 _) (fun _=>rfl)
 · have:=RD.mQ (im:=(g.grow (.slice (some ⟨gg,0,none⟩) (rows.length+srows.length) cap) e i.size t' (xs++news)).im) (rows:=rows++srows) (size:=i.size) (b:=gg) (off:=0) (cap:=cap) (ys:=xs++news)
    hall (by simpa using hnc) hcm (by rw [hown'.1];simp) (fun j u hu=>by simp only [Gh.grow,Value.ownBlock,if_true,Bd];exact hu) (fun j x hx=>by
     rw [Ma] at hx
     have hfl:=Em rows hsz
     rcases Ea j rows.flatten.length with h1|h1
     · rw [BE h1] at hx
       obtain ⟨v,hv,hrd⟩:=hxs j x hx
       exact ⟨v,by rw [BE (by omega)];exact hv,hrd.mono hle.im⟩
     · rw [BA h1] at hx
       obtain ⟨v,hv,hrd⟩:=hnr _ x hx
       refine ⟨v,?_,hrd.mono hle.im⟩
       rw [BA (by omega),hxl,← hfl];exact hv)
   simpa using this
end Go.Ab
namespace Go.Ab
open Go.RowKit
variable {P:Program} {base N:Nat} {g g':Gh} {Pr:Nat→Prop} {σ σ':AK} {w0 w w':World} {lam:Nat→Option Nat} {F:Fm} {L:Lm} {a:Act}
theorem yK {t ty e:TypeId} {i:TypeInfo} {z:Value} (ht:P.underlying t=some (.slice e)) (hi:P.info? e=some i) (hz:i.zero=some z) (hzs:z.cells.size=i.size)
 (h:B2 base g lam Pr N F L σ a w0 w) {q:AV} {pvl qvl:Value} (hq:SV g lam q qvl) {srows:List (List DV)} {n:Nat} {xs:List Value} (hmine:w.ownsRow base e i.size pvl n xs)
 (hqr:q.rows=some srows) (hss:∀r∈srows,r.length=i.size) (h63:n+srows.length≤maxLen) (hby:(n+srows.length) * i.bytes≤140737488355328):
 ∃(m:Nat) (news:List Value) (v':Value) (w':World),(Builtin.append_ #[t,t] ty #[pvl,qvl]).run P w= .ok v' w'∧m=srows.length∧news.length=m * i.size∧
  w'.ownsRow base e i.size v' (n+m) (xs++news)∧w.grownBy w' v'.ownBlock∧(∀k,v'.ownBlock=some k→pvl.ownBlock=some k∨w.heap.size≤k)∧
  (∀(j:Nat) (x:DV),srows.flatten[j]?=some x→∃v,news[j]?=some v∧RD g.im x v):=by
 have hqd:RD g.im (.sl srows) qvl:=by
  cases q with
  |d x=>cases x<;>simp only [AV.rows,AQ] at hqr<;>try (cases hqr;done)
        subst hqr;cases hq with|d h=>exact h
  |AO=>simp only [AV.rows,AQ] at hqr;subst hqr;cases hq;exact .nil (C3 _) (fun _=>rfl)
  |own _ _ _ _=>simp only [AV.rows,AQ] at hqr;subst hqr;cases hq with|own h _ _=>exact h
  |clip _=>simp only [AV.rows,AQ] at hqr;subst hqr;cases hq with|clip h=>exact h
  |_=>cases hqr
 by_cases h0:srows.length=0
 · have hnil:srows=[]:=An h0
   subst hnil
   cases hqd with
   |@nil ad cap hcm hcap=>
    cases ad with
    |none=>
     have:=hcap rfl;subst this
     refine ⟨0,[],pvl,w,run_append_owned_none w base t ty e i i.size ht hi pvl n xs hmine,rfl,by simp,by simpa using hmine,⟨rfl,rfl,rfl,A4 _,fun _ _ _=>rfl⟩,fun k hk=>.inl hk,by simp⟩
    |some ad=>
     obtain ⟨v',w',h1,h2,h3,h4⟩:=E8 (P:=P) w base t ty e i z i.size i.bytes ht hi hz rfl rfl hzs pvl n xs hmine ad 0 cap [] (by simp) (by simp) (by simp) (by simpa using h63) (by simpa using hby) h.rel.bs
     exact ⟨0,[],v',w',h1,rfl,by simp,h2,h3,h4,by simp⟩
   |sl hc hm hs hi hr=>
    obtain ⟨v',w',h1,h2,h3,h4⟩:=E8 (P:=P) w base t ty e i z i.size i.bytes ht ‹_› hz rfl rfl hzs pvl n xs hmine _ 0 _ [] (by simp) (by simp) (by simp) (by simpa using h63) (by simpa using hby) h.rel.bs
    exact ⟨0,[],v',w',h1,rfl,by simp,h2,h3,h4,by simp⟩
 · obtain ⟨ad,cap,rfl,_⟩:=hqd.Kn
   have hpos:0 < srows.length:=V1 h0
   obtain ⟨b,off,rfl⟩:∃b off,ad=some ⟨b,off,none⟩:=by
    generalize hvv:(Value.slice ad srows.length cap)=vv at hqd
    cases hqd with
    |nil=>simp at hpos
    |sl=>cases hvv;exact ⟨_,_,rfl⟩
   obtain ⟨news,hnl,_,hni,hnr⟩:=RD.cellsOf hss hqd hpos
   have hones:∀u∈news,u.oneCell'=true:=by
    intro u hu
    obtain ⟨j,hj,rfl⟩:=Cp hu
    have hjf:j < srows.flatten.length:=by rw [Em srows hss,← hnl];exact hj
    obtain ⟨v,hv,hrd⟩:=hnr j srows.flatten[j] (by simp)
    have:v=news[j]:=by rw [Az hj] at hv;cases hv;rfl
    rw [← this];exact hrd.one
   obtain ⟨v',w',h1,h2,h3,h4⟩:=E8 (P:=P) w base t ty e i z i.size i.bytes ht hi hz rfl rfl hzs pvl n xs hmine ⟨b,off,none⟩ srows.length cap news hnl
    (fun j u hu=>by rw [Addr.add_lit];exact h.rel.im _ _ _ (hni j u hu)) hones h63 hby h.rel.bs
   exact ⟨srows.length,news,v',w',h1,rfl,hnl,h2,h3,h4,hnr⟩
theorem Rel.AC1 (h:Rel base g Pr σ w0 w) {i b:Nat} {cs:List AV} (hi:σ.blk i=some cs) (hm:g.mu i=some b):Rel base g (fun x=>Pr x∨x=b) (σ.DB i) w0 w:=by
 obtain ⟨b0,hb0,ho⟩:=h.shr i cs hi
 rw [hm] at hb0;cases hb0
 have hlt:=h.RB hi hm
 have hn:∀j,(σ.DB i).blk j≠none→j≠i∧σ.blk j≠none:=fun j hj=>by
  by_cases e:j=i
  · subst e;simp [AK.DB] at hj
  · exact ⟨e,by simpa [AK.DB,e] using hj⟩
 have hbi:σ.blk i≠none:=by rw [hi];simp
 refine ⟨h.im,fun j cs' hj=>?_,fun j k b' hj hk=>h.inj j k b' (hn j hj).2 (hn k hk).2,fun t ht=>?_,fun x hx=>?_,h.bel,h.bs,h.fin,h.st⟩
 · have hji:=(hn j (by rw [hj];simp)).1
   have hj':σ.blk j=some cs':=by simpa [AK.DB,hji] using hj
   obtain ⟨b',hb',ho'⟩:=h.shr j cs' hj'
   refine ⟨b',hb',ho'.ok,ho'.row,ho'.low,ho'.im,fun hp=>?_⟩
   rcases hp with hp|hp
   · exact ho'.pr hp
   · exact hji (h.inj j i b (by rw [hj'];simp) hbi (hp ▸ hb') hm)
 · have ht':σ.tok t=true:=ht
   obtain ⟨v,e,size,n,xs,hmt,hown,hrest⟩:=(h.tok t ht').row
   refine ⟨v,e,size,n,xs,hmt,hown,fun b' hvb=>?_⟩
   obtain ⟨h1,h2,h3,h4⟩:=hrest b' hvb
   refine ⟨h1,fun hp=>?_,fun j hj=>h3 j (hn j hj).2,h4⟩
   rcases hp with hp|hp
   · exact h2 hp
   · exact h3 i hbi (hp ▸ hm)
 · rcases hx with hx|hx
   · exact h.pr x hx
   · subst hx;exact ⟨hlt,ho.im⟩
def UO (σ:AK) (e size:Nat):AV→Option (Nat×List AV×AK)
 | .AO=>some (0,[],σ)
 | .ms i n s e'=>if s=size∧e'=e then (σ.blk i).bind fun cs=>if cs.length=n * size then some (n,cs,σ.DB i) else none else none
 |_=>none
def H6 (srows:List (List DV)):List AV:=srows.flatten.map AV.d
theorem kX {t ty e:TypeId} {i:TypeInfo} {z:Value} (ht:P.underlying t=some (.slice e)) (hi:P.info? e=some i) (hz:i.zero=some z) (hzs:z.cells.size=i.size)
 (h:B2 base g lam Pr N F L σ a w0 w) {p q:AV} {pvl qvl:Value} (hp:SV g lam p pvl) (hq:SV g lam q qvl) {srows:List (List DV)} {n:Nat} {cs:List AV} {σ1:AK}
 (hpa:UO σ e i.size p=some (n,cs,σ1)) (hqr:q.rows=some srows) (hss:∀r∈srows,r.length=i.size) (hne:srows≠[])
 (h63:n+srows.length≤maxLen) (hby:(n+srows.length) * i.bytes≤140737488355328):
 ∃x g' w' j,(Builtin.append_ #[t,t] ty #[pvl,qvl]).run P w= .ok x w'∧g.le g'∧KP Pr w w'∧σ.blk j=none∧VR g' (.ms j (n+srows.length) i.size e) x∧
  B2 base g' lam Pr N F L (σ1.AH j (cs++H6 srows)) a w0 w':=by
 obtain ⟨j,hj,htau,hblk,htok⟩:=h.rel.fresh
 have hstart:∃(b0:Nat→Prop) (xs:List Value),w.ownsRow base e i.size pvl n xs∧cs.length=n * i.size∧VRs g cs xs∧Ag cs=true∧(∀b,pvl.ownBlock=some b→b0 b)∧(∀b,b0 b→pvl.ownBlock=some b)∧
  Rel base g (fun x=>(Pr x∨∃k,lam k=some x)∨b0 x) σ1 w0 w∧(∀b,b0 b→(∀o,g.im b o=none)∧¬(Pr b∨∃k,lam k=some b)):=by
  unfold UO at hpa
  split at hpa
  · cases hpa;cases hp
    refine ⟨fun _=>False,[],World.ownsRow_nil w base e i.size,by simp,.nil,rfl,fun b hb=>by simp [Value.ownBlock] at hb,fun b hb=>hb.elim,?_,fun b hb=>hb.elim⟩
    exact h.rel.grow (A4 _) (fun _ _ _=>rfl) (Below.refl _ _) (fun b hb=>by
     rcases hb with hb|hb
     · exact ⟨(h.rel.pr b hb).1,.inl hb⟩
     · exact hb.elim)
  · rename_i i0 n0 s0 e0
    split at hpa
    case isFalse=>cases hpa
    rename_i hcond
    obtain ⟨rfl,rfl⟩:=hcond
    simp only [AF] at hpa
    obtain ⟨cs0,hcs0,hpa⟩:=hpa
    split at hpa
    case isFalse=>cases hpa
    rename_i hlen
    cases hpa
    cases hp with
    |@ms _ _ _ _ b cap hm hr hn hmx=>
     obtain ⟨b',hb',ho⟩:=h.rel.shr i0 cs hcs0
     rw [hm] at hb';cases hb'
     obtain ⟨vs,ty',hv,hl,hrt,hvr⟩:=ho.row
     obtain ⟨hsz,hty⟩:=hrt _ hr
     simp only at hsz hty
     subst hty
     refine ⟨fun x=>x=b,vs.toList.take cs.length,⟨by simp;omega,.inr ⟨b,cap,vs,rfl,ho.low,hv,hn,hmx,hsz,by rw [hlen]⟩⟩,hlen,hvr,ho.ok,fun b2 hb2=>by simp [Value.ownBlock] at hb2;exact hb2.symm,fun b2 hb2=>by simp [Value.ownBlock,hb2],h.rel.AC1 hcs0 hm,fun b2 hb2=>?_⟩
     subst hb2
     exact ⟨ho.im,ho.pr⟩
  · cases hpa
 obtain ⟨b0,xs,hown,hcl,hvr,hcok,hb1,hb2,hrel1,hb3⟩:=hstart
 obtain ⟨m,news,v',w',hrun,rfl,hnl,hown',hgr,hwh,hnr⟩:=yK ht hi hz hzs h hq hown hqr hss h63 hby
 have hsame:∀b,b < w.heap.size→v'.ownBlock≠some b→w'.heap[b]?=w.heap[b]?:=fun b hb hne=>hgr.block b hb (Ne.symm hne)
 have hbel:Below base w w':=⟨hgr.os,hgr.tape,hgr.output,hgr.size,fun k hk=>hsame k (by have:=h.rel.bs;omega) fun e'=>by have:=(hown'.lt k e').1;omega⟩
 have hrel2:Rel base g (fun x=>Pr x∨∃k,lam k=some x) σ1 w0 w':=
  hrel1.grow hgr.size (fun b hb hnp=>hsame b hb (fun e'=>by
   rcases hwh b e' with h1|h1
   · exact hnp (.inr (hb1 b h1))
   · omega)) hbel (fun b hb=>⟨by have:=(h.rel.pr b hb).1;have:=hgr.size;omega,.inl (.inl hb)⟩)
 -- the new row
 have hsome:∃gg cap cur,v'= .slice (some ⟨gg,0,none⟩) (n+srows.length) cap∧base≤gg∧w'.heap[gg]?=some (.cells cur e (0,0))∧n+srows.length≤cap∧cap≤maxLen∧cur.size=cap * i.size∧cur.toList.take ((n+srows.length) * i.size)=xs++news:=by
  rcases hown'.2 with ⟨rfl,h0⟩|hh
  · exact absurd (An (show srows.length=0 by omega)) hne
  · exact hh
 obtain ⟨gg,cap,cur,rfl,hbg,hheap,hnc,hcm,hcur,htake⟩:=hsome
 have hwh':b0 gg∨w.heap.size≤gg:=by
  rcases hwh gg rfl with h1|h1
  · exact .inl (hb1 gg h1)
  · exact .inr h1
 have hpr:¬(Pr gg∨∃k,lam k=some gg):=by
  rcases hwh' with h1|h1
  · exact (hb3 gg h1).2
  · intro hp2;have:=(h.rel.pr gg hp2).1;omega
 have him:∀o,g.im gg o=none:=by
  rcases hwh' with h1|h1
  · exact (hb3 gg h1).1
  · intro o
    cases hi':g.im gg o with
    |none=>rfl
    |some v=>have:=h.rel.Sw hi';omega
 have hxl:xs.length=n * i.size:=hown.1
 have hcl2:(cs++H6 srows).length=(n+srows.length) * i.size:=by
  rw [AA,hcl,H6,AJ,Em srows hss,CM]
 have hvrs:VRs g (cs++H6 srows) (xs++news):=by
  refine hvr.append (VRs.O8 _ _ (by rw [hnl,H6,AJ,Em srows hss]) (fun q c v hc hv=>?_))
  rw [H6,BC,AM] at hc
  obtain ⟨x,hx,rfl⟩:=hc
  obtain ⟨v2,hv2,hr2⟩:=hnr q x hx
  rw [hv] at hv2;cases hv2
  exact .d hr2
 have hcok2:Ag (cs++H6 srows)=true:=by
  simp only [Fo,hcok,Bg,H6]
  exact S6 _
 have hle:=Gh.IU (g:=g) (i:=j) (b:=gg) (rt:=some (cap * i.size,e)) hj
 have hrel3:=hrel2.bD (i:=j) (b:=gg) (rt:=some (cap * i.size,e)) hj hbg (fun q hq' hm=>?_) him (fun t2 v2 e2 s2 ht2 hm2 hvb=>?_) (cs:=cs++H6 srows) hheap (by rw [hcl2,hcur];exact Aj _ hnc)
  (fun t ht=>by cases ht;exact ⟨hcur,rfl⟩) (by rw [hcl2,htake];exact hvrs) hcok2 hpr
 · refine ⟨_,g.share j gg (some (cap * i.size,e)),w',j,hrun,hle,⟨hgr.size,fun b hb=>hsame b (h.rel.pr b (.inl hb)).1 (fun e'=>by simp only [Value.ownBlock,AQ] at e';exact hpr (e' ▸ .inl hb))⟩,hblk,
    .ms (by simp [Gh.share]) (by simp [Gh.share]) hnc hcm,?_⟩
   exact h.step hle (fun k b hb=>hsame b (h.Ie hb) (fun e'=>by simp only [Value.ownBlock,AQ] at e';exact hpr (.inr ⟨k,e' ▸ hb⟩))) hrel3
 · rcases hwh' with h1|h1
   · cases hc:σ1.blk q with
     |none=>exact hq' hc
     |some c=>
      obtain ⟨b2,hb2',ho2⟩:=hrel1.shr q c hc
      rw [hm] at hb2';cases hb2'
      exact ho2.pr (.inr h1)
   · cases hc:σ1.blk q with
     |none=>exact hq' hc
     |some c=>have:=hrel1.RB hc hm;omega
 · obtain ⟨v3,e3,s3,n3,xs3,hm3,hown3,hrest3⟩:=(hrel1.tok t2 ht2).row
   rw [hm2] at hm3;cases hm3
   rcases hwh' with h1|h1
   · exact (hrest3 gg hvb).2.1 (.inr h1)
   · have:=(hown3.lt gg hvb).2;omega
def ADU (σ:AK):AV→AV→Option (Nat×Nat×Nat×List AV×AK)
 | .ms i n s e,h=>(Vz h).bind fun k=>(σ.blk i).bind fun cs=>if k≤n∧cs.length=n * s then some (k,s,e,cs.take (k * s),σ.DB i) else none
 |_,_=>none
theorem tD {t e0:TypeId} (ht:P.underlying t=some (.slice e0)) {sz:Nat} (hsz:szT P e0=some sz) (h:B2 base g lam Pr N F L σ a w0 w) {p q:AV} {pvl qvl:Value} (hp:SV g lam p pvl) (hq:SV g lam q qvl)
 {k s e:Nat} {cs:List AV} {σ1:AK} (hv:ADU σ p q=some (k,s,e,cs,σ1)):
 ∃x g' j,(Instr.sliceAt t pvl none (some qvl) none).run P w= .ok x w∧g.le g'∧σ.blk j=none∧VR g' (.ms j k s e) x∧B2 base g' lam Pr N F L (σ1.AH j cs) a w0 w:=by
 obtain ⟨j,hj,htau,hblk,htok⟩:=h.rel.fresh
 unfold ADU at hv
 split at hv
 case h_2=>cases hv
 rename_i i n s0 e1
 simp only [AF] at hv
 obtain ⟨k0,hk,cs0,hcs0,hv⟩:=hv
 split at hv
 case isFalse=>cases hv
 rename_i hcond
 cases hv
 obtain ⟨kk,rfl⟩:=H5 hk hq
 cases hp with
 |@ms _ _ _ _ b cap hm hr hn hmx=>
  obtain ⟨b',hb',ho⟩:=h.rel.shr i cs0 hcs0
  rw [hm] at hb';cases hb'
  obtain ⟨vs,ty',hv,hl,hrt,hvr⟩:=ho.row
  have hrt':=hrt _ hr
  have hkn:k * s≤n * s:=Aj _ hcond.1
  have hrun:(Instr.sliceAt t (.slice (some ⟨b,0,none⟩) n cap) none (some (.int kk k)) none).run P w= .ok (.slice (some ⟨b,0,none⟩) k cap) w:=by
   have hb1:(Instr.sliceBounds true n cap none (some (.int kk k)) none).run P w= .ok (0,k,cap) w:=by
    simp [Instr.sliceBounds,IC (Ay hcond.1 hn)]
   simp [Instr.sliceAt,Instr.slice,BS ht,hb1,Eb hsz,Addr.add_lit]
  have hrel1:=h.rel.AC1 hcs0 hm
  have hrel2:Rel base g (fun x=>Pr x∨∃k,lam k=some x) (σ.DB i) w0 w:=
   hrel1.grow (A4 _) (fun _ _ _=>rfl) (Below.refl _ _) (fun b hb=>⟨(h.rel.pr b hb).1,.inl (.inl hb)⟩)
  have hle:=Gh.IU (g:=g) (i:=j) (b:=b) (rt:=some (cap * s,e)) hj
  have hlen:(cs0.take (k * s)).length=k * s:=by simp;omega
  have hrel3:=hrel2.bD (i:=j) (b:=b) (rt:=some (cap * s,e)) hj ho.low (fun q hq' hm'=>?_) ho.im (fun t2 v2 e2 s2 ht2 hm2 hvb=>?_) (cs:=cs0.take (k * s)) hv (by omega) (fun t ht=>by cases ht;exact hrt')
   (by rw [hlen];have:=hvr.take (k * s);rwa [List.take_take,Tg (by omega)] at this) (Me _ ho.ok) ho.pr
  · exact ⟨_,g.share j b (some (cap * s,e)),j,hrun,hle,hblk,.ms (by simp [Gh.share]) (by simp [Gh.share]) (Ay hcond.1 hn) hmx,h.step hle (fun _ _ _=>rfl) hrel3⟩
  · cases hc:(σ.DB i).blk q with
    |none=>exact hq' hc
    |some c=>
     obtain ⟨b2,hb2',ho2⟩:=hrel1.shr q c hc
     rw [hm'] at hb2';cases hb2'
     exact ho2.pr (.inr rfl)
  · obtain ⟨v3,e3,s3,n3,xs3,hm3,hown3,hrest3⟩:=(hrel1.tok t2 ht2).row
    rw [hm2] at hm3;cases hm3
    exact (hrest3 b hvb).2.1 (.inr rfl)
end Go.Ab
