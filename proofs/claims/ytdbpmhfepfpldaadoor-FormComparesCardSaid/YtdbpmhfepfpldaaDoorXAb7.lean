/- Struct and slice literals, function values; all operations that only yield a value. Every operation that only yields a value does in the model what it does at the abstract level. Conditions: none. -/
import Derived.Test.YtdbpmhfepfpldaaDoorXAb5
set_option linter.unusedSimpArgs false
set_option linter.unusedVariables false
set_option maxRecDepth 4000
set_option maxHeartbeats 8000000
open List renaming length_cons→Ap,all_eq_true→A6,mem_of_mem_take→Ad,mem_of_mem_drop→BL,map_cons→C5,all_cons→Ar,getElem?_cons_succ→FK,drop_drop→F5,getElem_of_mem→B5,getElem?_eq_getElem→AZ,length_take→Aq,length_drop→B2,getElem?_eq_some_iff→AL,getElem?_take→A9,getElem?_drop→By,getD_eq_getElem?_getD→IK,replicate→AH,replicate_succ→CW,flatten_cons→CT,flatten_append→H2,map_append→HR
open Nat renaming add_zero→CA,add_mul→BG,zero_le→BM,le_refl→AP,mul_le_mul_right→Ae,zero_add→Ah,le_trans→Aa
open Array renaming length_toList→BV,range→GW
open Option.some renaming injEq→AD,inj→FF
open Option renaming bind_eq_bind→AE,bind_eq_some_iff→AA,map_eq_some_iff→AB
open Bool renaming and_eq_true→AJ,false_eq_true→A4
open Go renaming undef→BW
namespace Go.Ab
open Go.RowKit
variable {P:Program} {base N:Nat} {g g':Gh} {Pr:Nat→Prop} {σ σ':AF} {w0 w w':World} {lam:Nat→Option Nat} {F:Fm} {L:Lm} {a:Act}
theorem MV (off:Nat):∀(vs:List Value) (k:Nat) (cells:Array Value),off+k+vs.length≤cells.size→
 (vs.zipIdx k).foldl (fun cs (x:Value×Nat)=>cs.setIfInBounds (off+x.2) x.1) cells=(cells.toList.take (off+k)++vs++cells.toList.drop (off+k+vs.length)).toArray
 |[],k,cells,h=>by simp
 |v::vs,k,cells,h=>by
  simp only [List.zipIdx_cons,List.foldl_cons]
  have hl:off+k+(vs.length+1)≤cells.size:=by simpa using h
  rw [MV off vs (k+1) _ (by simp;omega)]
  have:=list_seg_step cells.toList (off+k) v vs (by simpa using hl)
  simp only [Array.toList_setIfInBounds,Ap]
  rw [show off+(k+1)=off+k+1 by omega,this]
theorem Qb (off:Nat) (v:Value) (cells:Array Value) (h:off+v.cells.size≤cells.size):
 v.cells.zipIdx.foldl (fun cs (c,j)=>cs.setIfInBounds (off+j) c) cells=(cells.toList.take off++v.cells.toList++cells.toList.drop (off+v.cells.size)).toArray:=by
 have:=MV off v.cells.toList 0 cells (by simpa using h)
 simp only [CA,BV] at this
 rw [← this,← Array.foldl_toList]
 simp
theorem CY {x y:List AV}:AS (x++y)=(AS x&&AS y):=by simp [AS]
theorem E4 {x:List AV} (n:Nat) (h:AS x=true):AS (x.take n)=true:=by
 simp only [AS,A6] at *
 exact fun c hc=>h c (Ad hc)
theorem Fv {x:List AV} (n:Nat) (h:AS x=true):AS (x.drop n)=true:=by
 simp only [AS,A6] at *
 exact fun c hc=>h c (BL hc)
theorem En {x:AV} (h:AS x.cells=true):x.BC=true:=by cases x<;>first|rfl|(simp [AV.cells,AS,AV.BH] at h)
theorem Fy (h:Ak base g lam Pr N F L σ a w0 w) (pl:Nat→Option (Nat×Nat)):∀(ps:List (Nat×Operand)) (cps:List (Nat×Nat×X)) (z:List AV) (zc:Array Value) (cs:List AV),
 GD pl ps=some cps→VRs g z zc.toList→AS z=true→D7 z F cps=some cs→
 ∃cells,Instr.fill pl zc (ps.map fun p=>(p.1,a.eval p.2))=some cells∧VRs g cs cells.toList∧AS cs=true
 |[],cps,z,zc,cs,hp,hz,hok,hf=>by
  simp only [GD,AD] at hp;subst hp
  simp only [D7,AD] at hf;subst hf
  exact ⟨zc,rfl,hz,hok⟩
 |(i,y)::ps,cps,z,zc,cs,hp,hz,hok,hf=>by
  simp only [GD,AE,AA] at hp
  obtain ⟨⟨off,n⟩,hpl,x,hx,cps',hcps,hc⟩:=hp
  cases hc
  simp only [D7] at hf
  split at hf
  · rename_i hcond
    simp only [AJ,beq_iff_eq,decide_eq_true_eq] at hcond
    obtain ⟨⟨hck,hln⟩,hle⟩:=hcond
    have hsv:=(AQ hx h).vr (En hck)
    have hcells:=hsv.cells hck
    have hsize:(a.eval y).cells.size=n:=by have:=hcells.length;simpa [hln] using this
    have hzl:=hz.length
    have hfit:off+(a.eval y).cells.size≤zc.size:=by simp at hzl;omega
    have hz':VRs g (z.take off++(xv F x).cells++z.drop (off+n)) ((zc.toList.take off++(a.eval y).cells.toList++zc.toList.drop (off+(a.eval y).cells.size)).toArray).toList:=by
     simp only [hsize]
     exact ((hz.take off).append hcells).append (hz.drop (off+n))
    have hok':AS (z.take off++(xv F x).cells++z.drop (off+n))=true:=by
     simp [CY,E4 _ hok,Fv _ hok,hck]
    obtain ⟨cells,hfill,hr,hck'⟩:=Fy h pl ps cps' _ _ cs hcps hz' hok' hf
    refine ⟨cells,?_,hr,hck'⟩
    have hno:¬(off+n>zc.size):=by omega
    simp only [C5,Instr.fill,hpl]
    rw [if_neg (by simp [hsize];omega),Qb off (a.eval y) zc hfit]
    exact hfill
  · cases hf
theorem JH:∀(l:List Value) (cs:List AV),cvs l=some cs→∀g:Gh,VRs g cs l∧AS cs=true
 |[],cs,h,g=>by simp only [cvs,AD] at h;subst h;exact ⟨.nil,rfl⟩
 |v::l,cs,h,g=>by
  simp only [cvs,AE,AA] at h
  obtain ⟨c,hc,cs',hcs,he⟩:=h
  cases he
  obtain ⟨h1,h2⟩:=JH l cs' hcs g
  refine ⟨.cons (Nd hc g) h1,?_⟩
  simp only [AS,Ar,AJ]
  exact ⟨Ta hc,h2⟩
theorem C8 {t:TypeId} {z:List AV} (h:E1 P t=some z):∃i zv,P.info? t=some i∧i.zero=some zv∧AS z=true∧∀g:Gh,VRs g z zv.cells.toList:=by
 simp only [E1,AE,AA] at h
 obtain ⟨i,hi,zv,hz,hc⟩:=h
 exact ⟨i,zv,hi,hz,(JH _ _ hc ⟨fun _ _=>none,fun _=>none,fun _=>none,fun _=>none⟩).2,fun g=>(JH _ _ hc g).1⟩
theorem QQ {t:TypeId} {z:List AV} {pl:Nat→Option (Nat×Nat)} {ps:Array (Nat×Operand)} {cps:List (Nat×Nat×X)} (hz:E1 P t=some z) (hpl:places P t=some pl)
 (hp:GD pl ps.toList=some cps) (h:Ak base g lam Pr N F L σ a w0 w) {cs:List AV} (hf:D7 z F cps=some cs):
 ∃x,(Instr.build t (ps.map fun (i,x)=>(i,a.eval x))).run P w= .ok x w∧VR g (.agg cs) x:=by
 obtain ⟨i,zv,hi,hzv,hok,hvr⟩:=C8 hz
 obtain ⟨cells,hfill,hr,hck⟩:=Fy h pl ps.toList cps z zv.cells cs hp (hvr g) hok hf
 have hb:P.built t (ps.map fun (i,x)=>(i,a.eval x)).toList=some cells:=by
  unfold Program.built places at *
  have hm:(ps.map fun (i,x)=>(i,a.eval x)).toList=ps.toList.map fun p=>(p.1,a.eval p.2):=by simp
  rw [hm]
  cases hu:P.underlying t with
  |none=>rw [hu] at hpl;cases hpl
  |some d=>
   rw [hu] at hpl
   cases d<;>try (cases hpl;done)
   case array n e=>
    simp only [AB] at hpl
    obtain ⟨ie,hie,rfl⟩:=hpl
    simp only [hi,hzv,hie];exact hfill
   case struct fs=>
    simp only [AB] at hpl
    obtain ⟨pp,hpp,rfl⟩:=hpl
    simp only [hi,hzv,hpp];exact hfill
 refine ⟨_,run_build w t _ cells hb,?_⟩
 have:cells=cells.toList.toArray:=by simp
 rw [this]
 simp only [AS,A6] at hck
 exact .agg hr.length hck hr.idx
theorem Ak.step (h:Ak base g lam Pr N F L σ a w0 w) (hg:g.le g') (hloc:∀k b,lam k=some b→w'.heap[b]?=w.heap[b]?)
 (hrel:Rel base g' (fun b=>Pr b∨∃k,lam k=some b) σ' w0 w'):Ak base g' lam Pr N F L σ' a w0 w':=by
 refine ⟨fun s=>(h.tm s).mono hg,h.sz,h.df,fun k cs hk=>?_,h.inj,h.npr,hrel⟩
 obtain ⟨hok,b,vs,ty,hb,hlow,hheap,hr⟩:=h.loc k cs hk
 exact ⟨hok,b,vs,ty,hb,hlow,by rw [hloc k b hb];exact hheap,hr.mono hg⟩
theorem Ak.D3 (h:Ak base g lam Pr N F L σ a w0 w) {k b:Nat} (hk:lam k=some b):b < w.heap.size:=(h.rel.pr b (.inr ⟨k,hk⟩)).1
theorem J3 {o:Obj} (hb:base≤w.heap.size):Below base w (w.alloc o):=(Below.refl base w).alloc hb o
theorem Rel.alloc (h:Rel base g Pr σ w0 w) (o:Obj):Rel base g Pr σ w0 (w.alloc o):=
 h.grow (by simp) (fun b hb _=>heap_alloc_old w o b hb) (J3 h.bs) (fun b hp=>⟨by have:=(h.pr b hp).1;simp;omega,.inl hp⟩)
theorem CG (size:Nat):∀(n:Nat) (l:List DV),(chunk size n l).length=n
 |0,_=>rfl
 |n+1,l=>by simp [chunk,CG size n]
theorem HC (size:Nat):∀(n:Nat) (l:List DV) (i:Nat),i < n→(chunk size n l)[i]?=some ((l.drop (i * size)).take size)
 |0,_,i,h=>by omega
 |n+1,l,0,_=>by simp [chunk]
 |n+1,l,i+1,h=>by
  simp only [chunk,FK]
  rw [HC size n (l.drop size) i (by omega),F5,BG,Nat.one_mul,Nat.add_comm]
theorem HF:∀(cs:List AV) (l:List DV),dvs cs=some l→∀vs,VRs g cs vs→l.length=cs.length∧∀(j:Nat) (x:DV),l[j]?=some x→∃v,vs[j]?=some v∧RD g.im x v
 |[],l,h,vs,hr=>by simp only [dvs,AD] at h;subst h;exact ⟨rfl,fun j x hx=>by simp at hx⟩
 |c::cs,l,h,vs,hr=>by
  simp only [dvs,AE,AA] at h
  obtain ⟨x,hx,l',hl',he⟩:=h
  cases he
  cases hr with
  |@cons _ v _ vs' hcv hrs=>
   obtain ⟨h1,h2⟩:=HF cs l' hl' vs' hrs
   refine ⟨by simp [h1],fun j y hy=>?_⟩
   cases j with
   |zero=>
    simp at hy;subst hy
    refine ⟨v,rfl,?_⟩
    cases c<;>simp only [AV.dv,AD] at hx<;>first
     |(cases hx;done)
     |(subst hx;cases hcv with|d h=>exact h)
     |(subst hx;cases hcv;exact .nil (BM _) (fun _=>rfl))
     |(subst hx;cases hcv with|own h _ _=>exact h)
     |(subst hx;cases hcv with|clip h=>exact h)
     |(subst hx;cases hcv;exact .CS)
   |succ j=>simpa using h2 j y (by simpa using hy)
theorem RD.fresh {im:Nat→Nat→Option Value} {b n size:Nat} {l:List DV} {cells:List Value} (hl:l.length=n * size) (hn:n≤maxLen) (hc:cells.length=n * size)
 (him:∀o v,cells[o]?=some v→im b o=some v) (hr:∀(j:Nat) (x:DV),l[j]?=some x→∃v,cells[j]?=some v∧RD im x v):
 RD im (.sl (chunk size n l)) (.slice (some ⟨b,0,none⟩) n n):=by
 have hgoal:RD im (.sl (chunk size n l)) (.slice (some ⟨b,0,none⟩) (chunk size n l).length n):=by
  refine .sl (size:=size) (f:=fun i j=>cells.getD (i * size+j) (.bool false)) (by rw [CG];exact AP _) hn ?_ ?_ ?_
  · intro r hrm
    obtain ⟨i,hi,rfl⟩:=B5 hrm
    rw [CG] at hi
    have:=HC size n l i hi
    rw [AZ (by rw [CG];exact hi)] at this
    rw [FF this]
    rw [Aq,B2,hl]
    have:i * size+size≤n * size:=by rw [← Nat.succ_mul];exact Ae _ hi
    omega
  · intro i j hi hj
    rw [CG] at hi
    have:i * size+size≤n * size:=by rw [← Nat.succ_mul];exact Ae _ hi
    have hlt:i * size+j < cells.length:=by omega
    rw [Ah]
    refine him _ _ ?_
    simp [AZ hlt]
  · intro i r j x hi hj
    have hin:i < n:=by have:=(AL.1 hi).1;rwa [CG] at this
    rw [HC size n l i hin] at hi
    cases hi
    rw [A9] at hj
    split at hj
    · rw [By] at hj
      obtain ⟨v,hv,hrd⟩:=hr _ _ hj
      rw [IK,hv]
      exact hrd
    · cases hj
 rwa [CG] at hgoal
theorem VRs.flatten {z:List AV} {zc:List Value} (h:VRs g z zc):∀n:Nat,VRs g (AH n z).flatten (AH n zc).flatten
 |0=>by simpa using .nil
 |n+1=>by simp only [CW,CT];exact h.append (VRs.flatten h n)
theorem Bj {z:List AV} (h:AS z=true):∀n:Nat,AS (AH n z).flatten=true
 |0=>rfl
 |n+1=>by simp only [CW,CT,CY,h,Bj h n,Bool.and_self]
theorem range_zero (z:Array Value) (size:Nat) (hz:z.size=size) (h0:0 < size):∀n:Nat,((GW (n * size)).map (z[· % z.size]!)).toList=(AH n z.toList).flatten
 |0=>by simp
 |n+1=>by
  have ih:=range_zero z size hz h0 n
  have e1:(AH (n+1) z.toList).flatten=(AH n z.toList).flatten++z.toList:=by
   rw [List.replicate_succ',H2];simp
  rw [e1,← ih]
  simp only [Array.toList_map,Array.toList_range,BG,Nat.one_mul,List.range_add,HR,List.map_map]
  congr 1
  apply List.ext_getElem
  · simp [hz]
  · intro i h1 h2
    simp at h1 h2
    have:(n * size+i) % z.size=i:=by rw [hz,Nat.add_comm,Nat.add_mul_mod_self_right];exact Nat.mod_eq_of_lt h1
    simp [this,h2]
theorem Ay {α:Type} (l:List α):∀n:Nat,(AH n l).flatten.length=n * l.length
 |0=>by simp
 |n+1=>by simp [CW,Ay l n,BG];omega
theorem Fx (F:Fm):∀(cps:List (Nat×Nat×X)) (z cs:List AV),D7 z F cps=some cs→cs.length=z.length
 |[],z,cs,h=>by simp only [D7,AD] at h;subst h;rfl
 |(off,n,x)::cps,z,cs,h=>by
  simp only [D7] at h
  split at h
  · rename_i hc
    simp only [AJ,beq_iff_eq,decide_eq_true_eq] at hc
    rw [Fx F cps _ cs h]
    simp;omega
  · cases h
theorem QS {t e:TypeId} {n len:Nat} {z:List AV} {ps:Array (Nat×Operand)} {cps:List (Nat×Nat×X)} (he:Ep P t=some e) (hz:E1 P e=some z) (hn:szT P e=some n)
 (hzn:z.length=n∧0 < n∧len * n≤4096∧len≤4096) (hp:GD (fun i=>some (i * n,n)) ps.toList=some cps) (h:Ak base g lam Pr N F L σ a w0 w) {cs:List AV} {l:List DV}
 (hf:D7 (AH len z).flatten F cps=some cs) (hd:dvs cs=some l):
 ∃x g' w',(Instr.buildSlice t len (ps.map fun (i,x)=>(i,a.eval x))).run P w= .ok x w'∧g.le g'∧KP Pr w w'∧VR g' (.d (.sl (chunk n len l))) x∧Ak base g' lam Pr N F L σ a w0 w':=by
 obtain ⟨hzl,h0,hsmall,hlen⟩:=hzn
 obtain ⟨i,zv,hi,hzv,hok,hvr⟩:=C8 hz
 have hu:P.underlying t=some (.slice e):=by
  unfold Ep at he
  split at he
  · rename_i e' hh;cases he;exact hh
  · cases he
 have hzs:zv.cells.size=n:=by have:=(hvr g).length;simp at this;omega
 have hinit:VRs g (AH len z).flatten ((GW (len * n)).map (zv.cells[· % zv.cells.size]!)).toList:=by
  rw [range_zero zv.cells n hzs h0 len];exact (hvr g).flatten len
 obtain ⟨cells,hfill,hr,hck⟩:=Fy h _ ps.toList cps _ _ cs hp hinit (Bj hok len) hf
 have hcl:cells.size=len * n:=by
  have h1:=hr.length
  have h2:=Fx F cps _ cs hf
  have h3:=Ay z len
  simp at h1;rw [h1,h2,h3,hzl]
 have hrun:(Instr.buildSlice t len (ps.map fun (i,x)=>(i,a.eval x))).run P w= .ok (.slice (some ⟨w.heap.size,0,none⟩) len len) (w.alloc (.cells cells e)):=by
  have hm:(ps.map fun (i,x)=>(i,a.eval x)).toList=ps.toList.map fun p=>(p.1,a.eval p.2):=by simp
  have hno:¬(len * n>2 ^ 24):=Nat.not_lt.2 (Aa hsmall (by decide))
  unfold Instr.buildSlice
  simp only [Sem.run_bind,A8 hu,Result.andThen_ok,Bm hn,hm]
  rw [if_neg hno]
  by_cases h00:len * n=0
  · have hr0:GW 0=#[]:=rfl
    rw [h00,hr0] at hfill
    simp only [h00,if_true,pure_bind,hr0,Array.map_empty] at hfill ⊢
    simp only [hfill,Sem.run_bind,newRow,run_newObj,Result.andThen_ok,Sem.run_pure,World.alloc_eq]
  · simp only [if_neg h00,Sem.run_bind,zeroValue,typeInfo,run_program,Result.andThen_ok,hi,Sem.run_pure,hzv,hfill,newRow,run_newObj,World.alloc_eq]
 have hrel:=h.rel.settle (n:=len * n) (vs:=cells) (b:=w.heap.size) (AP _) (h.rel.alloc (.cells cells e)) (fun o=>by simp)
 have hle:=h.rel.HM w.heap.size (len * n) cells (AP _)
 refine ⟨_,g.settle w.heap.size (len * n) cells,_,hrun,hle,⟨by simp,fun b hp=>heap_alloc_old w _ b (h.rel.pr b (.inl hp)).1⟩,?_,h.step hle (fun k b hb=>heap_alloc_old w _ b (h.D3 hb)) hrel⟩
 obtain ⟨hll,hrd⟩:=HF cs l hd _ (hr.mono hle)
 have h1:=hr.length
 refine .d (RD.fresh (cells:=cells.toList) (by simp at h1;omega) (by simp only [maxLen];omega) (by simpa using hcl) (fun o v hv=>?_) hrd)
 have:o < len * n:=by have:=(AL.1 hv).1;simp at this;omega
 simp only [Gh.settle,if_true,if_pos this]
 simpa using hv
theorem O7 {t:TypeId} {y:Operand} {x:X} (hx:xo y=some x) (h:Ak base g lam Pr N F L σ a w0 w) {l:List DV} (hd:dvs (xv F x).cells=some l):
 ∃z g' w',(Instr.box t (a.eval y)).run P w= .ok z w'∧g.le g'∧KP Pr w w'∧VR g' (.d (.ptr l)) z∧Ak base g' lam Pr N F L σ a w0 w':=by
 have hok:AS (xv F x).cells=true:=by
  have:∀(cs:List AV) (l:List DV),dvs cs=some l→AS cs=true:=by
   intro cs
   induction cs with
   |nil=>intro l h;rfl
   |cons c cs ih=>
    intro l h
    simp only [dvs,AE,AA] at h
    obtain ⟨x,hx,l',hl',_⟩:=h
    simp only [AS,Ar,AJ]
    refine ⟨?_,ih l' hl'⟩
    cases c<;>first|rfl|(simp [AV.dv] at hx)
  exact this _ _ hd
 have hv:=((AQ hx h).vr (En hok)).cells hok
 have hrun:(Instr.box t (a.eval y)).run P w= .ok (.pointer (some ⟨w.heap.size,0,none⟩)) (w.alloc (.cells (a.eval y).cells t)):=by simp [Instr.box,newVar,newRow]
 have hrel:=h.rel.settle (n:=(a.eval y).cells.size) (vs:=(a.eval y).cells) (b:=w.heap.size) (AP _) (h.rel.alloc (.cells (a.eval y).cells t)) (fun o=>by simp)
 have hle:=h.rel.HM w.heap.size (a.eval y).cells.size (a.eval y).cells (AP _)
 refine ⟨_,g.settle w.heap.size (a.eval y).cells.size (a.eval y).cells,_,hrun,hle,⟨by simp,fun b hp=>heap_alloc_old w _ b (h.rel.pr b (.inl hp)).1⟩,?_,h.step hle (fun k b hb=>heap_alloc_old w _ b (h.D3 hb)) hrel⟩
 obtain ⟨hll,hrd⟩:=HF _ l hd _ (hv.mono hle)
 have h1:=hv.length
 refine .d (.ptr (f:=fun j=>((a.eval y).cells.toList[j]?).getD BW) (fun j hj=>?_) (fun j x hx=>?_))
 · have hlt:j < (a.eval y).cells.size:=by simp at h1;omega
   simp [Gh.settle,hlt]
 · obtain ⟨v,hv',hr'⟩:=hrd j x hx
   rw [hv'];exact hr'
theorem Ej (h:Ak base g lam Pr N F L σ a w0 w):∀(l:List Operand) (xs:List X),xos l=some xs→((xvs F xs).all AV.BC=true)→VRs g (xvs F xs) (l.map a.eval)
 |[],xs,hx,_=>by simp only [xos,AD] at hx;subst hx;exact .nil
 |y::l,xs,hx,hn=>by
  simp only [xos,AE,AA] at hx
  obtain ⟨x,hx1,xs',hxs,he⟩:=hx
  cases he
  simp only [xvs,C5,Ar,AJ] at hn
  exact .cons ((AQ hx1 h).vr hn.1) (Ej h l xs' hxs hn.2)
theorem PJ {c x y v:AV} {cvl xvl yvl:Value} (hc:SV g lam c cvl) (hx:SV g lam x xvl) (hy:SV g lam y yvl) (hv:OC c x y=some v):
 ∃z,((do pure (.value (if ← asBool cvl then xvl else yvl)):Sem Next)).run P w= .ok (.value z) w∧SV g lam v z:=by
 cases c with
 |d c=>cases c with
  |bool b=>
   cases hc with|d hc=>
   cases hc
   cases hv
   cases b
   · exact ⟨yvl,by simp [asBool],by simpa using hy⟩
   · exact ⟨xvl,by simp [asBool],by simpa using hx⟩
  |_=>cases hv
 |_=>cases hv
theorem Ca {t e:TypeId} (he:Ep P t=some e):P.underlying t=some (.slice e):=by
 unfold Ep at he
 split at he
 · rename_i e' hh;cases he;exact hh
 · cases he
end Go.Ab
namespace Go.Ab
open Go.RowKit
variable {P:Program} {σ:AF} {F:Fm} {L:Lm}
theorem Bf {ρ:Operand→Value} {o:Oper} {s:Sem Value} (h:execOp ρ o=(do pure (.value (← s)):Sem Next)) {w w':World} {x:Value} (hs:s.run P w= .ok x w'):
 (execOp ρ o).run P w= .ok (.value x) w':=by rw [h];simp [hs]
theorem O9 {dst:Option Tmp} {c:Call} {ty:TypeId} {pos:String} {after:Array Edge} {guard:Option (Nat×Bool)} {co:O} {v:AV} {sh:Bool} (hc:I4 P sh c=some co) (hv:pv F L σ co=some v):
 VOp P ⟨dst,.call c,ty,pos,after,guard⟩ F L σ v:=by
 obtain ⟨callee,args,argTypes⟩:=c
 obtain ⟨args⟩:=args
 obtain ⟨argTypes⟩:=argTypes
 unfold I4 at hc
 cases callee with
 |invoke r m=>cases hc
 |value f=>
  cases f<;>simp only at hc
  · simp only [AB] at hc
    obtain ⟨xs,_,rfl⟩:=hc
    simp [pv] at hv
  · cases hc
  · cases hc
  · split at hc
    · simp only [AB] at hc
      obtain ⟨xs,_,rfl⟩:=hc
      simp [pv] at hv
    · cases hc
 |builtin b=>
  simp only at hc
  unfold SB at hc
  split at hc
  · rename_i x t
    cases hu:P.underlying t with
    |none=>rw [hu] at hc;cases hc
    |some d=>
     rw [hu] at hc
     cases d<;>try (cases hc;done)
     · simp only [AB] at hc
       obtain ⟨xx,hx,rfl⟩:=hc
       exact .same fun base g lam Pr N a w0 w h=>by
        obtain ⟨u,hz,hs⟩:=P2 (P:=P) (w:=w) hu ty (AQ hx h) hv
        exact ⟨u,by simp [execOp,resolve,invoke,builtin,hz],hs⟩
     · simp only [AB] at hc
       obtain ⟨xx,hx,rfl⟩:=hc
       exact .same fun base g lam Pr N a w0 w h=>by
        obtain ⟨u,hz,hs⟩:=Qx (P:=P) (w:=w) hu ty (AQ hx h) hv
        exact ⟨u,by simp [execOp,resolve,invoke,builtin,hz],hs⟩
  · simp only [AE,AA] at hc
    obtain ⟨x,hx,x2,hx2,hh⟩:=hc
    cases hh
    exact .same fun base g lam Pr N a w0 w h=>by
     obtain ⟨u,hz,hs⟩:=Im (P:=P) (w:=w) (b:=true) argTypes.toArray ty (AQ hx h) (AQ hx2 h) hv
     exact ⟨u,by simp only [if_true] at hz;simp [execOp,resolve,invoke,builtin,hz],hs⟩
  · simp only [AE,AA] at hc
    obtain ⟨x,hx,x2,hx2,x3,hx3,hh⟩:=hc
    cases hh
    simp only [pv,AA] at hv
    obtain ⟨v1,hv1,hv2⟩:=hv
    exact .same fun base g lam Pr N a w0 w h=>by
     have hs1:=AQ hx h
     have hs2:=AQ hx2 h
     have hs3:=AQ hx3 h
     obtain ⟨u,hz,hs⟩:=Im (P:=P) (w:=w) (b:=true) argTypes.toArray ty hs1 hs2 hv1
     obtain ⟨u2,hz2,hs'⟩:=Im (P:=P) (w:=w) (b:=true) argTypes.toArray ty hs hs3 hv2
     refine ⟨u2,?_,hs'⟩
     simp only [if_true,Builtin.max_] at hz hz2
     simp only [List.foldlM_cons,List.foldlM_nil,bind_pure] at hz hz2
     simp [execOp,resolve,invoke,builtin,Builtin.max_,hz,hz2]
  · simp only [AE,AA] at hc
    obtain ⟨x,hx,x2,hx2,hh⟩:=hc
    cases hh
    exact .same fun base g lam Pr N a w0 w h=>by
     obtain ⟨u,hz,hs⟩:=Im (P:=P) (w:=w) (b:=false) argTypes.toArray ty (AQ hx h) (AQ hx2 h) hv
     exact ⟨u,by simp only [A4,if_false] at hz;simp [execOp,resolve,invoke,builtin,hz],hs⟩
  · simp only [AE,AA] at hc
    obtain ⟨e,_,i,_,z,_,hh⟩:=hc
    split at hh
    · simp only [AA] at hh
      obtain ⟨xl,_,xc,_,hh⟩:=hh
      cases sh
      · cases hh;simp [pv] at hv
      · cases hh;simp [pv] at hv
    · cases hh
  · cases hc
theorem Sw {sh im lc:Bool} {o:Oper} {c:O} {v:AV} (hc:MS P sh im lc o.op=some c) (hv:pv F L σ c=some v):VOp P o F L σ v:=by
 obtain ⟨dst,op,ty,pos,after,guard⟩:=o
 cases op<;>simp only [MS] at hc
 case move y=>
  simp only [AB] at hc
  obtain ⟨x,hx,rfl⟩:=hc
  simp only [pv,AD] at hv;subst hv
  exact .same fun base g lam Pr N a w0 w h=>⟨a.eval y,by simp [execOp],AQ hx h⟩
 case assign y=>
  simp only [AB] at hc
  obtain ⟨x,hx,rfl⟩:=hc
  simp only [pv,AD] at hv;subst hv
  exact .same fun base g lam Pr N a w0 w h=>⟨a.eval y,by simp [execOp],AQ hx h⟩
 case pick c y z=>
  simp only [AE,AA] at hc
  obtain ⟨xc,h1,xy,h2,xz,h3,he⟩:=hc
  cases he
  exact .same fun base g lam Pr N a w0 w h=>PJ (AQ h1 h) (AQ h2 h) (AQ h3 h) hv
 case alloc t=>
  simp only [AB] at hc
  obtain ⟨z,hz,rfl⟩:=hc
  simp [pv] at hv
 case box t y=>
  simp only [AB] at hc
  obtain ⟨z,hz,rfl⟩:=hc
  cases im
  · simp [pv] at hv
  · simp only [if_true,pv,AB] at hv
    obtain ⟨l,hl,rfl⟩:=hv
    intro base g lam Pr N a w0 w h
    obtain ⟨x,g',w',hr,h1,h2,h3,h4⟩:=O7 (P:=P) (t:=t) hz h hl
    exact ⟨x,g',w',Bf rfl hr,h1,h2,SV.Bt h3,h4⟩
 case field s y f=>
  simp only [AE,AA] at hc
  obtain ⟨x,hx,off,ho,n,hn,he⟩:=hc
  cases he
  exact .same fun base g lam Pr N a w0 w h=>by
   obtain ⟨z,hz,hs⟩:=SH (P:=P) (w:=w) ho hn (AQ hx h) hv
   exact ⟨z,Bf rfl hz,SV.Bt hs⟩
 case slice t y lo hi mx=>
  cases hu:P.underlying t with
  |none=>rw [hu] at hc;cases hc
  |some d=>
   rw [hu] at hc
   cases d<;>try (cases hc;done)
   · cases mx with
     |some _=>cases hc
     |none=>
      simp only [AE,AA] at hc
      obtain ⟨x,hx,xl,hxl,xh,hxh,hh⟩:=hc
      cases hh
      exact .same fun base g lam Pr N a w0 w h=>by
       obtain ⟨z,hz,hs⟩:=R2 (P:=P) (w:=w) hu (AQ hx h) (Fq hxl h) (Fq hxh h) hv
       exact ⟨z,Bf rfl hz,SV.Bt hs⟩
   · rename_i e
     cases sh
     · simp only [A4,if_false,AE,AA] at hc
       obtain ⟨x,hx,xl,hxl,xh,hxh,xm,hxm,sz,hsz,hh⟩:=hc
       cases hh
       exact .same fun base g lam Pr N a w0 w h=>by
        obtain ⟨z,hz,hs⟩:=R1 (P:=P) (w:=w) hu hsz (AQ hx h) (Fq hxl h) (Fq hxh h) (Fq hxm h) hv
        exact ⟨z,Bf rfl hz,SV.Bt hs⟩
     · simp only [if_true] at hc
       obtain ⟨rfl,z,rfl,rfl,x,xh,sz,_,_,_,rfl⟩:=Ma hc
       simp [pv] at hv
 case fieldAddr s y f=>
  simp only [AE,AA] at hc
  obtain ⟨x,hx,off,ho,he⟩:=hc
  cases he
  exact .same fun base g lam Pr N a w0 w h=>by
   obtain ⟨z,hz,hs⟩:=Qc (P:=P) (w:=w) ho (AQ hx h) hv
   exact ⟨z,Bf rfl hz,hs⟩
 case load t y=>
  simp only [AE,AA] at hc
  obtain ⟨x,hx,n,hn,he⟩:=hc
  have hv2:ldA L σ (xv F x) n=some v:=by
   cases lc
   · cases he;exact hv
   · cases he
     have hv:Mx L (xv F x) n=some v:=hv
     cases hxx:xv F x<;>rw [hxx] at hv<;>simp only [Mx] at hv<;>try (cases hv;done)
     exact hv
  exact .same fun base g lam Pr N a w0 w h=>by
   obtain ⟨z,hz,hs⟩:=Nx hn h (AQ hx h) hv2
   exact ⟨z,Bf rfl hz,SV.Bt hs⟩
 case store t y z=>
  simp only [AE,AA] at hc
  obtain ⟨x,hx,x2,hx2,n,hn,he⟩:=hc
  cases he
  simp [pv] at hv
 case indexAddr t y i=>
  simp only [AE,AA] at hc
  obtain ⟨x,hx,xi,hxi,e,he,n,hn,hh⟩:=hc
  cases hh
  exact .same fun base g lam Pr N a w0 w h=>by
   obtain ⟨z,hz,hs⟩:=SR (P:=P) (w:=w) he hn (AQ hx h) (AQ hxi h) hv
   exact ⟨z,Bf rfl hz,hs⟩
 case index t y i=>
  cases hu:P.underlying t with
  |none=>rw [hu] at hc;cases hc
  |some d=>
   rw [hu] at hc
   cases d<;>try (cases hc;done)
   simp only [AE,AA] at hc
   obtain ⟨x,hx,xi,hxi,hh⟩:=hc
   cases hh
   exact .same fun base g lam Pr N a w0 w h=>by
    obtain ⟨z,hz,hs⟩:=P0 (P:=P) (w:=w) hu (AQ hx h) (AQ hxi h) hv
    exact ⟨z,Bf rfl hz,hs⟩
 case binOp op t y z t2=>
  cases hu:P.underlying t with
  |none=>rw [hu] at hc;cases hc
  |some d=>
   rw [hu] at hc
   cases d<;>try (cases hc;done)
   case bool=>
    simp only [AE,AA] at hc
    obtain ⟨x,hx,xi,hxi,hh⟩:=hc
    cases hh
    exact .same fun base g lam Pr N a w0 w h=>by
     obtain ⟨u,hz,hs⟩:=O6 (P:=P) (w:=w) hu y z (AQ hx h) (AQ hxi h) hv
     exact ⟨u,Bf rfl hz,hs⟩
   case pointer e=>
    obtain ⟨rfl,ne,x,hop,hx,rfl⟩:=LP hc
    exact .same fun base g lam Pr N a w0 w h=>by
     obtain ⟨u,hz,hs⟩:=PQ (P:=P) (w:=w) (op:=op) hu hop y (.const (.pointer none)) (AQ hx h) hv
     exact ⟨u,Bf rfl hz,hs⟩
   case struct fs=>
    have hc:(if Ff P t then ON op fs.size y z else none)=some c:=hc
    split at hc
    · rename_i his
      obtain ⟨ne,x,xi,hop,hx,hxi,rfl⟩:=L9 hc
      exact .same fun base g lam Pr N a w0 w h=>by
       obtain ⟨u,hz,hs⟩:=P6 (P:=P) (w:=w) hu his hop y z (AQ hx h) (AQ hxi h) hv
       exact ⟨u,Bf rfl hz,hs⟩
    · cases hc
   all_goals
    simp only [AE,AA] at hc
    obtain ⟨x,hx,xi,hxi,hh⟩:=hc
    cases hh
    exact .same fun base g lam Pr N a w0 w h=>by
     obtain ⟨u,hz,hs⟩:=QP (P:=P) (w:=w) (t:=t) y z (AQ hx h) (AQ hxi h) hv
     exact ⟨u,Bf rfl hz,hs⟩
 case unOp op t y=>
  simp only [AE,AA] at hc
  obtain ⟨x,hx,hh⟩:=hc
  cases hh
  exact .same fun base g lam Pr N a w0 w h=>by
   obtain ⟨u,hz,hs⟩:=TT (P:=P) (w:=w) (AQ hx h) hv
   exact ⟨u,Bf rfl hz,hs⟩
 case convert s t y=>
  cases hu:P.underlying s with
  |none=>rw [hu] at hc;cases hc
  |some d=>
   rw [hu] at hc
   cases d<;>try (cases hc;done)
   cases hu2:P.underlying t with
   |none=>rw [hu2] at hc;cases hc
   |some d2=>
    rw [hu2] at hc
    cases d2<;>try (cases hc;done)
    simp only [AE,AA] at hc
    obtain ⟨x,hx,hh⟩:=hc
    cases hh
    exact .same fun base g lam Pr N a w0 w h=>by
     obtain ⟨u,hz,hs⟩:=Ol (P:=P) (w:=w) hu hu2 (AQ hx h) hv
     exact ⟨u,Bf rfl hz,hs⟩
 case build t ps=>
  simp only [AE,AA] at hc
  obtain ⟨z,hz,pl,hpl,cps,hcps,hh⟩:=hc
  cases hh
  simp only [pv,AB] at hv
  obtain ⟨cs,hcs,rfl⟩:=hv
  exact .same fun base g lam Pr N a w0 w h=>by
   obtain ⟨u,hu,hs⟩:=QQ hz hpl hcps h hcs
   exact ⟨u,Bf rfl hu,SV.Bt hs⟩
 case buildSlice t len ps=>
  simp only [AE,AA] at hc
  obtain ⟨e,he,z,hz,n,hn,hh⟩:=hc
  split at hh
  · rename_i hcond
    simp only [AA] at hh
    obtain ⟨cps,hcps,hh⟩:=hh
    have hv2:pv F L σ (.bsl n len (AH len z).flatten cps)=some v:=by
     cases sh
     · cases hh;exact hv
     · cases hh;simp [pv] at hv
    simp only [pv,AB,AA] at hv2
    obtain ⟨l,⟨cs,hcs,hl⟩,rfl⟩:=hv2
    intro base g lam Pr N a w0 w h
    obtain ⟨x,g',w',hr,h1,h2,h3,h4⟩:=QS he hz hn hcond hcps h hcs hl
    exact ⟨x,g',w',Bf rfl hr,h1,h2,SV.Bt h3,h4⟩
  · cases hh
 case makeFunc fn first caps=>
  cases fn<;>simp only [AE,AA] at hc<;>try (cases hc;done)
  rename_i f
  obtain ⟨xf,hxf,xc,hxc,hh⟩:=hc
  cases hh
  simp only [pv] at hv
  split at hv
  · rename_i hn
    cases hv
    simp only [List.all_append,AJ] at hn
    exact .same fun base g lam Pr N a w0 w h=>by
     have h1:=Ej h first.toList xf hxf hn.1
     have h2:=Ej h caps.toList xc hxc hn.2
     refine ⟨.func (.func f) (first.map a.eval) (caps.map a.eval),by simp [execOp,Instr.makeFunc],SV.Bt ?_⟩
     have e1:first.map a.eval=(first.toList.map a.eval).toArray:=Array.ext' (by simp)
     have e2:caps.map a.eval=(caps.toList.map a.eval).toArray:=Array.ext' (by simp)
     rw [e1,e2]
     exact .fn h1.length h2.length h1.idx h2.idx
  · cases hv
 case extract y i=>
  simp only [AB] at hc
  obtain ⟨x,hx,rfl⟩:=hc
  exact .same fun base g lam Pr N a w0 w h=>by
   obtain ⟨u,hz,hs⟩:=Q9 (P:=P) (w:=w) (AQ hx h) hv
   exact ⟨u,Bf rfl hz,SV.Bt hs⟩
 case nilCheck y=>
  simp only [AB] at hc
  obtain ⟨x,hx,rfl⟩:=hc
  simp only [pv] at hv
  exact .same fun base g lam Pr N a w0 w h=>by
   have hs:=AQ hx h
   have key:∀p:Addr,a.eval y= .pointer (some p)→(execOp a.eval ⟨dst,.nilCheck y,ty,pos,after,guard⟩).run P w= .ok (.value (.pointer (some p))) w:=by
    intro p hp
    simp only [execOp,hp];rfl
   generalize a.eval y=vy at hs key
   cases hxv:xv F x<;>rw [hxv] at hv hs<;>simp only [S9,AD] at hv<;>try (cases hv;done)
   · rename_i dx
     cases dx<;>simp only [AD] at hv<;>try (cases hv;done)
     subst hv;cases hs with|d hs=>cases hs with|ptr hi hr=>exact ⟨_,key _ rfl,.d (.ptr hi hr)⟩
   · subst hv;obtain ⟨b,hb,rfl⟩:=hs;exact ⟨_,key _ rfl,b,hb,rfl⟩
   · subst hv;cases hs with|gp hm=>exact ⟨_,key _ rfl,.gp hm⟩
   · subst hv;cases hs with|ep hi hr=>exact ⟨_,key _ rfl,.ep hi hr⟩
 case makeSlice t l c=>
  simp only [AE,AA] at hc
  obtain ⟨e,he,i,hi,z,hz,hh⟩:=hc
  split at hh
  · simp only [AA] at hh
    obtain ⟨xl,_,xc,_,hh⟩:=hh
    cases hh
    simp [pv] at hv
  · cases hh
 case call c=>exact O9 hc hv
 all_goals (cases hc;done)
end Go.Ab
