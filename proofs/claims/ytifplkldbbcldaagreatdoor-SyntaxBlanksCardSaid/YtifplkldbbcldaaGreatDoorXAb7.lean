/- Struct and slice literals, function values; all operations that only yield a value. Every operation that only yields a value does in the model what it does at the abstract level. Conditions: none. -/
import Derived.Test.YtifplkldbbcldaaGreatDoorXAb5
set_option linter.unusedSimpArgs false
set_option linter.unusedVariables false
set_option maxRecDepth 4000
set_option maxHeartbeats 8000000
open List renaming length_cons→AD,all_eq_true→A4,mem_of_mem_take→Bf,mem_of_mem_drop→Cf,map_cons→AE,all_cons→Bk,getElem?_cons_succ→Vb,drop_drop→Ce,getElem_of_mem→CY,getElem?_eq_getElem→Ap,length_take→BU,length_drop→Ad,getElem?_eq_some_iff→A8,getElem?_take→Bl,getElem?_drop→D9,getD_eq_getElem?_getD→Su,replicate→Aj,flatten_cons→C1,flatten_append→LQ,map_append→B1,all_append→CQ
open Nat renaming add_zero→FX,add_mul→Bs,zero_le→CC,le_refl→A7,succ_mul→Kb,mul_le_mul_right→Ai,zero_add→B5,le_trans→Az
open Array renaming length_toList→CX,range→Pz
open Option.some renaming injEq→AP,inj→GN
open Option renaming bind_eq_bind→AS,bind_eq_some_iff→AB,map_eq_some_iff→AJ
open Bool renaming and_eq_true→AK,false_eq_true→AY
open Go renaming undef→C0
namespace Go.Ab
open Go.RowKit
variable {P:Program} {base N:Nat} {g g':Gh} {Pr:Nat→Prop} {σ σ':AN} {w0 w w':World} {lam:Nat→Option Nat} {F:Fm} {L:Lm} {a:Act}
theorem Xt (off:Nat):∀(vs:List Value) (k:Nat) (cells:Array Value),off+k+vs.length≤cells.size→
 (vs.zipIdx k).foldl (fun cs (x:Value×Nat)=>cs.setIfInBounds (off+x.2) x.1) cells=(cells.toList.take (off+k)++vs++cells.toList.drop (off+k+vs.length)).toArray
 |[],k,cells,h=>by simp
 |v::vs,k,cells,h=>by
  simp only [List.zipIdx_cons,List.foldl_cons]
  have hl:off+k+(vs.length+1)≤cells.size:=by simpa using h
  rw [Xt off vs (k+1) _ (by simp;omega)]
  have:=list_seg_step cells.toList (off+k) v vs (by simpa using hl)
  simp only [Array.toList_setIfInBounds,AD]
  rw [show off+(k+1)=off+k+1 by omega,this]
theorem hI (off:Nat) (v:Value) (cells:Array Value) (h:off+v.cells.size≤cells.size):
 v.cells.zipIdx.foldl (fun cs (c,j)=>cs.setIfInBounds (off+j) c) cells=(cells.toList.take off++v.cells.toList++cells.toList.drop (off+v.cells.size)).toArray:=by
 have:=Xt off v.cells.toList 0 cells (by simpa using h)
 simp only [FX,CX] at this
 rw [← this,← Array.foldl_toList]
 simp
theorem FH {x y:List AV}:Af (x++y)=(Af x&&Af y):=by simp [Af]
theorem LV {x:List AV} (n:Nat) (h:Af x=true):Af (x.take n)=true:=by
 simp only [Af,A4] at *
 exact fun c hc=>h c (Bf hc)
theorem OR {x:List AV} (n:Nat) (h:Af x=true):Af (x.drop n)=true:=by
 simp only [Af,A4] at *
 exact fun c hc=>h c (Cf hc)
theorem Lr {x:AV} (h:Af x.cells=true):x.At=true:=by cases x<;>first|rfl|(simp [AV.cells,Af,AV.CF] at h)
theorem OW (h:BR base g lam Pr N F L σ a w0 w) (pl:Nat→Option (Nat×Nat)):∀(ps:List (Nat×Operand)) (cps:List (Nat×Nat×X)) (z:List AV) (zc:Array Value) (cs:List AV),
 Oi pl ps=some cps→VRs g z zc.toList→Af z=true→Ho z F cps=some cs→
 ∃cells,Instr.fill pl zc (ps.map fun p=>(p.1,a.eval p.2))=some cells∧VRs g cs cells.toList∧Af cs=true
 |[],cps,z,zc,cs,hp,hz,hok,hf=>by
  simp only [Oi,AP] at hp;subst hp
  simp only [Ho,AP] at hf;subst hf
  exact ⟨zc,rfl,hz,hok⟩
 |(i,y)::ps,cps,z,zc,cs,hp,hz,hok,hf=>by
  simp only [Oi,AS,AB] at hp
  obtain ⟨⟨off,n⟩,hpl,x,hx,cps',hcps,hc⟩:=hp
  cases hc
  simp only [Ho] at hf
  split at hf
  · rename_i hcond
    simp only [AK,beq_iff_eq,decide_eq_true_eq] at hcond
    obtain ⟨⟨hck,hln⟩,hle⟩:=hcond
    have hsv:=(Aa hx h).vr (Lr hck)
    have hcells:=hsv.cells hck
    have hsize:(a.eval y).cells.size=n:=by have:=hcells.length;simpa [hln] using this
    have hzl:=hz.length
    have hfit:off+(a.eval y).cells.size≤zc.size:=by simp at hzl;omega
    have hz':VRs g (z.take off++(xv F x).cells++z.drop (off+n)) ((zc.toList.take off++(a.eval y).cells.toList++zc.toList.drop (off+(a.eval y).cells.size)).toArray).toList:=by
     simp only [hsize]
     exact ((hz.take off).append hcells).append (hz.drop (off+n))
    have hok':Af (z.take off++(xv F x).cells++z.drop (off+n))=true:=by
     simp [FH,LV _ hok,OR _ hok,hck]
    obtain ⟨cells,hfill,hr,hck'⟩:=OW h pl ps cps' _ _ cs hcps hz' hok' hf
    refine ⟨cells,?_,hr,hck'⟩
    have hno:¬(off+n>zc.size):=by omega
    simp only [AE,Instr.fill,hpl]
    rw [if_neg (by simp [hsize];omega),hI off (a.eval y) zc hfit]
    exact hfill
  · cases hf
theorem UB:∀(l:List Value) (cs:List AV),cvs l=some cs→∀g:Gh,VRs g cs l∧Af cs=true
 |[],cs,h,g=>by simp only [cvs,AP] at h;subst h;exact ⟨.nil,rfl⟩
 |v::l,cs,h,g=>by
  simp only [cvs,AS,AB] at h
  obtain ⟨c,hc,cs',hcs,he⟩:=h
  cases he
  obtain ⟨h1,h2⟩:=UB l cs' hcs g
  refine ⟨.cons (Z2 hc g) h1,?_⟩
  simp only [Af,Bk,AK]
  exact ⟨oV hc,h2⟩
theorem F7 {t:TypeId} {z:List AV} (h:LN P t=some z):∃i zv,P.info? t=some i∧i.zero=some zv∧Af z=true∧∀g:Gh,VRs g z zv.cells.toList:=by
 simp only [LN,AS,AB] at h
 obtain ⟨i,hi,zv,hz,hc⟩:=h
 exact ⟨i,zv,hi,hz,(UB _ _ hc ⟨fun _ _=>none,fun _=>none,fun _=>none,fun _=>none⟩).2,fun g=>(UB _ _ hc g).1⟩
theorem gR {t:TypeId} {z:List AV} {pl:Nat→Option (Nat×Nat)} {ps:Array (Nat×Operand)} {cps:List (Nat×Nat×X)} (hz:LN P t=some z) (hpl:places P t=some pl)
 (hp:Oi pl ps.toList=some cps) (h:BR base g lam Pr N F L σ a w0 w) {cs:List AV} (hf:Ho z F cps=some cs):
 ∃x,(Instr.build t (ps.map fun (i,x)=>(i,a.eval x))).run P w= .ok x w∧VR g (.agg cs) x:=by
 obtain ⟨i,zv,hi,hzv,hok,hvr⟩:=F7 hz
 obtain ⟨cells,hfill,hr,hck⟩:=OW h pl ps.toList cps z zv.cells cs hp (hvr g) hok hf
 have hb:P.built t (ps.map fun (i,x)=>(i,a.eval x)).toList=some cells:=by
  unfold Program.built places at *
  have hm:(ps.map fun (i,x)=>(i,a.eval x)).toList=ps.toList.map fun p=>(p.1,a.eval p.2):=by simp
  rw [hm]
  cases hu:P.underlying t with
  |none=>rw [hu] at hpl;cases hpl
  |some d=>
   rw [hu] at hpl
   cases d<;>try (cases hpl;done)
   case array n e=>
    simp only [AJ] at hpl
    obtain ⟨ie,hie,rfl⟩:=hpl
    simp only [hi,hzv,hie];exact hfill
   case struct fs=>
    simp only [AJ] at hpl
    obtain ⟨pp,hpp,rfl⟩:=hpl
    simp only [hi,hzv,hpp];exact hfill
 refine ⟨_,run_build w t _ cells hb,?_⟩
 have:cells=cells.toList.toArray:=by simp
 rw [this]
 simp only [Af,A4] at hck
 exact .agg hr.length hck hr.idx
theorem BR.step (h:BR base g lam Pr N F L σ a w0 w) (hg:g.le g') (hloc:∀k b,lam k=some b→w'.heap[b]?=w.heap[b]?)
 (hrel:Rel base g' (fun b=>Pr b∨∃k,lam k=some b) σ' w0 w'):BR base g' lam Pr N F L σ' a w0 w':=by
 refine ⟨fun s=>(h.tm s).mono hg,h.sz,h.df,fun k cs hk=>?_,h.inj,h.npr,hrel⟩
 obtain ⟨hok,b,vs,ty,hb,hlow,hheap,hr⟩:=h.loc k cs hk
 exact ⟨hok,b,vs,ty,hb,hlow,by rw [hloc k b hb];exact hheap,hr.mono hg⟩
theorem BR.He (h:BR base g lam Pr N F L σ a w0 w) {k b:Nat} (hk:lam k=some b):b < w.heap.size:=(h.rel.pr b (.inr ⟨k,hk⟩)).1
theorem Ug {o:Obj} (hb:base≤w.heap.size):Below base w (w.alloc o):=(Below.refl base w).alloc hb o
theorem Rel.alloc (h:Rel base g Pr σ w0 w) (o:Obj):Rel base g Pr σ w0 (w.alloc o):=
 h.grow (by simp) (fun b hb _=>heap_alloc_old w o b hb) (Ug h.bs) (fun b hp=>⟨by have:=(h.pr b hp).1;simp;omega,.inl hp⟩)
theorem El (size:Nat):∀(n:Nat) (l:List DV),(chunk size n l).length=n
 |0,_=>rfl
 |n+1,l=>by simp [chunk,El size n]
theorem RH (size:Nat):∀(n:Nat) (l:List DV) (i:Nat),i < n→(chunk size n l)[i]?=some ((l.drop (i * size)).take size)
 |0,_,i,h=>by omega
 |n+1,l,0,_=>by simp [chunk]
 |n+1,l,i+1,h=>by
  simp only [chunk,Vb]
  rw [RH size n (l.drop size) i (by omega),Ce,Bs,Nat.one_mul,Nat.add_comm]
theorem RL:∀(cs:List AV) (l:List DV),dvs cs=some l→∀vs,VRs g cs vs→l.length=cs.length∧∀(j:Nat) (x:DV),l[j]?=some x→∃v,vs[j]?=some v∧RD g.im x v
 |[],l,h,vs,hr=>by simp only [dvs,AP] at h;subst h;exact ⟨rfl,fun j x hx=>by simp at hx⟩
 |c::cs,l,h,vs,hr=>by
  simp only [dvs,AS,AB] at h
  obtain ⟨x,hx,l',hl',he⟩:=h
  cases he
  cases hr with
  |@cons _ v _ vs' hcv hrs=>
   obtain ⟨h1,h2⟩:=RL cs l' hl' vs' hrs
   refine ⟨by simp [h1],fun j y hy=>?_⟩
   cases j with
   |zero=>
    simp at hy;subst hy
    refine ⟨v,rfl,?_⟩
    cases c<;>simp only [AV.dv,AP] at hx<;>first
     |(cases hx;done)
     |(subst hx;cases hcv with|d h=>exact h)
     |(subst hx;cases hcv;exact .nil (CC _) (fun _=>rfl))
     |(subst hx;cases hcv with|own h _ _=>exact h)
     |(subst hx;cases hcv with|clip h=>exact h)
     |(subst hx;cases hcv;exact .Ei)
   |succ j=>simpa using h2 j y (by simpa using hy)
theorem RD.fresh {im:Nat→Nat→Option Value} {b n size:Nat} {l:List DV} {cells:List Value} (hl:l.length=n * size) (hn:n≤maxLen) (hc:cells.length=n * size)
 (him:∀o v,cells[o]?=some v→im b o=some v) (hr:∀(j:Nat) (x:DV),l[j]?=some x→∃v,cells[j]?=some v∧RD im x v):
 RD im (.sl (chunk size n l)) (.slice (some ⟨b,0,none⟩) n n):=by
 have hgoal:RD im (.sl (chunk size n l)) (.slice (some ⟨b,0,none⟩) (chunk size n l).length n):=by
  refine .sl (size:=size) (f:=fun i j=>cells.getD (i * size+j) (.bool false)) (by rw [El];exact A7 _) hn ?_ ?_ ?_
  · intro r hrm
    obtain ⟨i,hi,rfl⟩:=CY hrm
    rw [El] at hi
    have:=RH size n l i hi
    rw [Ap (by rw [El];exact hi)] at this
    rw [GN this]
    rw [BU,Ad,hl]
    have:i * size+size≤n * size:=by rw [← Kb];exact Ai _ hi
    omega
  · intro i j hi hj
    rw [El] at hi
    have:i * size+size≤n * size:=by rw [← Kb];exact Ai _ hi
    have hlt:i * size+j < cells.length:=by omega
    rw [B5]
    refine him _ _ ?_
    simp [Ap hlt]
  · intro i r j x hi hj
    have hin:i < n:=by have:=(A8.1 hi).1;rwa [El] at this
    rw [RH size n l i hin] at hi
    cases hi
    rw [Bl] at hj
    split at hj
    · rw [D9] at hj
      obtain ⟨v,hv,hrd⟩:=hr _ _ hj
      rw [Su,hv]
      exact hrd
    · cases hj
 rwa [El] at hgoal
theorem VRs.flatten {z:List AV} {zc:List Value} (h:VRs g z zc):∀n:Nat,VRs g (Aj n z).flatten (Aj n zc).flatten
 |0=>by simpa using .nil
 |n+1=>by simp only [List.replicate_succ,C1];exact h.append (VRs.flatten h n)
theorem EG {z:List AV} (h:Af z=true):∀n:Nat,Af (Aj n z).flatten=true
 |0=>rfl
 |n+1=>by simp only [List.replicate_succ,C1,FH,h,EG h n,Bool.and_self]
theorem range_zero (z:Array Value) (size:Nat) (hz:z.size=size) (h0:0 < size):∀n:Nat,((Pz (n * size)).map (z[· % z.size]!)).toList=(Aj n z.toList).flatten
 |0=>by simp
 |n+1=>by
  have ih:=range_zero z size hz h0 n
  have e1:(Aj (n+1) z.toList).flatten=(Aj n z.toList).flatten++z.toList:=by
   rw [List.replicate_succ',LQ];simp
  rw [e1,← ih]
  simp only [Array.toList_map,Array.toList_range,Bs,Nat.one_mul,List.range_add,B1,List.map_map]
  congr 1
  apply List.ext_getElem
  · simp [hz]
  · intro i h1 h2
    simp at h1 h2
    have:(n * size+i) % z.size=i:=by rw [hz,Nat.add_comm,Nat.add_mul_mod_self_right];exact Nat.mod_eq_of_lt h1
    simp [this,h2]
theorem B2 {α:Type} (l:List α):∀n:Nat,(Aj n l).flatten.length=n * l.length
 |0=>by simp
 |n+1=>by simp [List.replicate_succ,B2 l n,Bs];omega
theorem OV (F:Fm):∀(cps:List (Nat×Nat×X)) (z cs:List AV),Ho z F cps=some cs→cs.length=z.length
 |[],z,cs,h=>by simp only [Ho,AP] at h;subst h;rfl
 |(off,n,x)::cps,z,cs,h=>by
  simp only [Ho] at h
  split at h
  · rename_i hc
    simp only [AK,beq_iff_eq,decide_eq_true_eq] at hc
    rw [OV F cps _ cs h]
    simp;omega
  · cases h
theorem gS {t e:TypeId} {n len:Nat} {z:List AV} {ps:Array (Nat×Operand)} {cps:List (Nat×Nat×X)} (he:Lu P t=some e) (hz:LN P e=some z) (hn:szT P e=some n)
 (hzn:z.length=n∧0 < n∧len * n≤4096∧len≤4096) (hp:Oi (fun i=>some (i * n,n)) ps.toList=some cps) (h:BR base g lam Pr N F L σ a w0 w) {cs:List AV} {l:List DV}
 (hf:Ho (Aj len z).flatten F cps=some cs) (hd:dvs cs=some l):
 ∃x g' w',(Instr.buildSlice t len (ps.map fun (i,x)=>(i,a.eval x))).run P w= .ok x w'∧g.le g'∧KP Pr w w'∧VR g' (.d (.sl (chunk n len l))) x∧BR base g' lam Pr N F L σ a w0 w':=by
 obtain ⟨hzl,h0,hsmall,hlen⟩:=hzn
 obtain ⟨i,zv,hi,hzv,hok,hvr⟩:=F7 hz
 have hu:P.underlying t=some (.slice e):=by
  unfold Lu at he
  split at he
  · rename_i e' hh;cases he;exact hh
  · cases he
 have hzs:zv.cells.size=n:=by have:=(hvr g).length;simp at this;omega
 have hinit:VRs g (Aj len z).flatten ((Pz (len * n)).map (zv.cells[· % zv.cells.size]!)).toList:=by
  rw [range_zero zv.cells n hzs h0 len];exact (hvr g).flatten len
 obtain ⟨cells,hfill,hr,hck⟩:=OW h _ ps.toList cps _ _ cs hp hinit (EG hok len) hf
 have hcl:cells.size=len * n:=by
  have h1:=hr.length
  have h2:=OV F cps _ cs hf
  have h3:=B2 z len
  simp at h1;rw [h1,h2,h3,hzl]
 have hrun:(Instr.buildSlice t len (ps.map fun (i,x)=>(i,a.eval x))).run P w= .ok (.slice (some ⟨w.heap.size,0,none⟩) len len) (w.alloc (.cells cells e)):=by
  have hm:(ps.map fun (i,x)=>(i,a.eval x)).toList=ps.toList.map fun p=>(p.1,a.eval p.2):=by simp
  have hno:¬(len * n>2 ^ 24):=Nat.not_lt.2 (Az hsmall (by decide))
  unfold Instr.buildSlice
  simp only [Sem.run_bind,BI hu,Result.andThen_ok,EO hn,hm]
  rw [if_neg hno]
  by_cases h00:len * n=0
  · have hr0:Pz 0=#[]:=rfl
    rw [h00,hr0] at hfill
    simp only [h00,if_true,pure_bind,hr0,Array.map_empty] at hfill ⊢
    simp only [hfill,Sem.run_bind,newRow,run_newObj,Result.andThen_ok,Sem.run_pure,World.alloc_eq]
  · simp only [if_neg h00,Sem.run_bind,zeroValue,typeInfo,run_program,Result.andThen_ok,hi,Sem.run_pure,hzv,hfill,newRow,run_newObj,World.alloc_eq]
 have hrel:=h.rel.settle (n:=len * n) (vs:=cells) (b:=w.heap.size) (A7 _) (h.rel.alloc (.cells cells e)) (fun o=>by simp)
 have hle:=h.rel.RU w.heap.size (len * n) cells (A7 _)
 refine ⟨_,g.settle w.heap.size (len * n) cells,_,hrun,hle,⟨by simp,fun b hp=>heap_alloc_old w _ b (h.rel.pr b (.inl hp)).1⟩,?_,h.step hle (fun k b hb=>heap_alloc_old w _ b (h.He hb)) hrel⟩
 obtain ⟨hll,hrd⟩:=RL cs l hd _ (hr.mono hle)
 have h1:=hr.length
 refine .d (RD.fresh (cells:=cells.toList) (by simp at h1;omega) (by simp only [maxLen];omega) (by simpa using hcl) (fun o v hv=>?_) hrd)
 have:o < len * n:=by have:=(A8.1 hv).1;simp at this;omega
 simp only [Gh.settle,if_true,if_pos this]
 simpa using hv
theorem bK {t:TypeId} {y:Operand} {x:X} (hx:xo y=some x) (h:BR base g lam Pr N F L σ a w0 w) {l:List DV} (hd:dvs (xv F x).cells=some l):
 ∃z g' w',(Instr.box t (a.eval y)).run P w= .ok z w'∧g.le g'∧KP Pr w w'∧VR g' (.d (.ptr l)) z∧BR base g' lam Pr N F L σ a w0 w':=by
 have hok:Af (xv F x).cells=true:=by
  have:∀(cs:List AV) (l:List DV),dvs cs=some l→Af cs=true:=by
   intro cs
   induction cs with
   |nil=>intro l h;rfl
   |cons c cs ih=>
    intro l h
    simp only [dvs,AS,AB] at h
    obtain ⟨x,hx,l',hl',_⟩:=h
    simp only [Af,Bk,AK]
    refine ⟨?_,ih l' hl'⟩
    cases c<;>first|rfl|(simp [AV.dv] at hx)
  exact this _ _ hd
 have hv:=((Aa hx h).vr (Lr hok)).cells hok
 have hrun:(Instr.box t (a.eval y)).run P w= .ok (.pointer (some ⟨w.heap.size,0,none⟩)) (w.alloc (.cells (a.eval y).cells t)):=by simp [Instr.box,newVar,newRow]
 have hrel:=h.rel.settle (n:=(a.eval y).cells.size) (vs:=(a.eval y).cells) (b:=w.heap.size) (A7 _) (h.rel.alloc (.cells (a.eval y).cells t)) (fun o=>by simp)
 have hle:=h.rel.RU w.heap.size (a.eval y).cells.size (a.eval y).cells (A7 _)
 refine ⟨_,g.settle w.heap.size (a.eval y).cells.size (a.eval y).cells,_,hrun,hle,⟨by simp,fun b hp=>heap_alloc_old w _ b (h.rel.pr b (.inl hp)).1⟩,?_,h.step hle (fun k b hb=>heap_alloc_old w _ b (h.He hb)) hrel⟩
 obtain ⟨hll,hrd⟩:=RL _ l hd _ (hv.mono hle)
 have h1:=hv.length
 refine .d (.ptr (f:=fun j=>((a.eval y).cells.toList[j]?).getD C0) (fun j hj=>?_) (fun j x hx=>?_))
 · have hlt:j < (a.eval y).cells.size:=by simp at h1;omega
   simp [Gh.settle,hlt]
 · obtain ⟨v,hv',hr'⟩:=hrd j x hx
   rw [hv'];exact hr'
theorem OK (h:BR base g lam Pr N F L σ a w0 w):∀(l:List Operand) (xs:List X),xos l=some xs→((xvs F xs).all AV.At=true)→VRs g (xvs F xs) (l.map a.eval)
 |[],xs,hx,_=>by simp only [xos,AP] at hx;subst hx;exact .nil
 |y::l,xs,hx,hn=>by
  simp only [xos,AS,AB] at hx
  obtain ⟨x,hx1,xs',hxs,he⟩:=hx
  cases he
  simp only [xvs,AE,Bk,AK] at hn
  exact .cons ((Aa hx1 h).vr hn.1) (OK h l xs' hxs hn.2)
theorem cW {c x y v:AV} {cvl xvl yvl:Value} (hc:SV g lam c cvl) (hx:SV g lam x xvl) (hy:SV g lam y yvl) (hv:Zy c x y=some v):
 ∃z,((do pure (.value (if ← asBool cvl then xvl else yvl)):Sem Next)).run P w= .ok (.value z) w∧SV g lam v z:=by
 cases c with
 |d c=>cases c with
  |bool b=>
   cases hc with|d hc=>
   cases hc
   cases hv
   cases b
   · exact ⟨yvl,by simp [asBool],by simpa using hy⟩
   · exact ⟨xvl,by simp [asBool],by simpa using hx⟩
  |_=>cases hv
 |_=>cases hv
theorem F9 {t e:TypeId} (he:Lu P t=some e):P.underlying t=some (.slice e):=by
 unfold Lu at he
 split at he
 · rename_i e' hh;cases he;exact hh
 · cases he
end Go.Ab
namespace Go.Ab
open Go.RowKit
variable {P:Program} {σ:AN} {F:Fm} {L:Lm}
theorem Df {ρ:Operand→Value} {o:Oper} {s:Sem Value} (h:execOp ρ o=(do pure (.value (← s)):Sem Next)) {w w':World} {x:Value} (hs:s.run P w= .ok x w'):
 (execOp ρ o).run P w= .ok (.value x) w':=by rw [h];simp [hs]
theorem bN {dst:Option Tmp} {c:Call} {ty:TypeId} {pos:String} {after:Array Edge} {guard:Option (Nat×Bool)} {co:O} {v:AV} {sh:Bool} (hc:TL P sh c=some co) (hv:pv F L σ co=some v):
 VOp P ⟨dst,.call c,ty,pos,after,guard⟩ F L σ v:=by
 obtain ⟨callee,args,argTypes⟩:=c
 obtain ⟨args⟩:=args
 obtain ⟨argTypes⟩:=argTypes
 unfold TL at hc
 cases callee with
 |invoke r m=>cases hc
 |value f=>
  cases f<;>simp only at hc
  · simp only [AJ] at hc
    obtain ⟨xs,_,rfl⟩:=hc
    simp [pv] at hv
  · cases hc
  · cases hc
  · split at hc
    · simp only [AJ] at hc
      obtain ⟨xs,_,rfl⟩:=hc
      simp [pv] at hv
    · cases hc
 |builtin b=>
  simp only at hc
  unfold kW at hc
  split at hc
  · rename_i x t
    cases hu:P.underlying t with
    |none=>rw [hu] at hc;cases hc
    |some d=>
     rw [hu] at hc
     cases d<;>try (cases hc;done)
     · simp only [AJ] at hc
       obtain ⟨xx,hx,rfl⟩:=hc
       exact .same fun base g lam Pr N a w0 w h=>by
        obtain ⟨u,hz,hs⟩:=dL (P:=P) (w:=w) hu ty (Aa hx h) hv
        exact ⟨u,by simp [execOp,resolve,invoke,builtin,hz],hs⟩
     · simp only [AJ] at hc
       obtain ⟨xx,hx,rfl⟩:=hc
       exact .same fun base g lam Pr N a w0 w h=>by
        obtain ⟨u,hz,hs⟩:=iQ (P:=P) (w:=w) hu ty (Aa hx h) hv
        exact ⟨u,by simp [execOp,resolve,invoke,builtin,hz],hs⟩
  · simp only [AS,AB] at hc
    obtain ⟨x,hx,x2,hx2,hh⟩:=hc
    cases hh
    exact .same fun base g lam Pr N a w0 w h=>by
     obtain ⟨u,hz,hs⟩:=T5 (P:=P) (w:=w) (b:=true) argTypes.toArray ty (Aa hx h) (Aa hx2 h) hv
     exact ⟨u,by simp only [if_true] at hz;simp [execOp,resolve,invoke,builtin,hz],hs⟩
  · simp only [AS,AB] at hc
    obtain ⟨x,hx,x2,hx2,x3,hx3,hh⟩:=hc
    cases hh
    simp only [pv,AB] at hv
    obtain ⟨v1,hv1,hv2⟩:=hv
    exact .same fun base g lam Pr N a w0 w h=>by
     have hs1:=Aa hx h
     have hs2:=Aa hx2 h
     have hs3:=Aa hx3 h
     obtain ⟨u,hz,hs⟩:=T5 (P:=P) (w:=w) (b:=true) argTypes.toArray ty hs1 hs2 hv1
     obtain ⟨u2,hz2,hs'⟩:=T5 (P:=P) (w:=w) (b:=true) argTypes.toArray ty hs hs3 hv2
     refine ⟨u2,?_,hs'⟩
     simp only [if_true,Builtin.max_] at hz hz2
     simp only [List.foldlM_cons,List.foldlM_nil,bind_pure] at hz hz2
     simp [execOp,resolve,invoke,builtin,Builtin.max_,hz,hz2]
  · simp only [AS,AB] at hc
    obtain ⟨x,hx,x2,hx2,hh⟩:=hc
    cases hh
    exact .same fun base g lam Pr N a w0 w h=>by
     obtain ⟨u,hz,hs⟩:=T5 (P:=P) (w:=w) (b:=false) argTypes.toArray ty (Aa hx h) (Aa hx2 h) hv
     exact ⟨u,by simp only [AY,if_false] at hz;simp [execOp,resolve,invoke,builtin,hz],hs⟩
  · simp only [AS,AB] at hc
    obtain ⟨e,_,i,_,z,_,hh⟩:=hc
    split at hh
    · simp only [AB] at hh
      obtain ⟨xl,_,xc,_,hh⟩:=hh
      cases sh
      · cases hh;simp [pv] at hv
      · cases hh;simp [pv] at hv
    · cases hh
  · cases hc
theorem nL {sh im lc:Bool} {o:Oper} {c:O} {v:AV} (hc:Xp P sh im lc o.op=some c) (hv:pv F L σ c=some v):VOp P o F L σ v:=by
 obtain ⟨dst,op,ty,pos,after,guard⟩:=o
 cases op<;>simp only [Xp] at hc
 case move y=>
  simp only [AJ] at hc
  obtain ⟨x,hx,rfl⟩:=hc
  simp only [pv,AP] at hv;subst hv
  exact .same fun base g lam Pr N a w0 w h=>⟨a.eval y,by simp [execOp],Aa hx h⟩
 case assign y=>
  simp only [AJ] at hc
  obtain ⟨x,hx,rfl⟩:=hc
  simp only [pv,AP] at hv;subst hv
  exact .same fun base g lam Pr N a w0 w h=>⟨a.eval y,by simp [execOp],Aa hx h⟩
 case pick c y z=>
  simp only [AS,AB] at hc
  obtain ⟨xc,h1,xy,h2,xz,h3,he⟩:=hc
  cases he
  exact .same fun base g lam Pr N a w0 w h=>cW (Aa h1 h) (Aa h2 h) (Aa h3 h) hv
 case alloc t=>
  simp only [AJ] at hc
  obtain ⟨z,hz,rfl⟩:=hc
  simp [pv] at hv
 case box t y=>
  simp only [AJ] at hc
  obtain ⟨z,hz,rfl⟩:=hc
  cases im
  · simp [pv] at hv
  · simp only [if_true,pv,AJ] at hv
    obtain ⟨l,hl,rfl⟩:=hv
    intro base g lam Pr N a w0 w h
    obtain ⟨x,g',w',hr,h1,h2,h3,h4⟩:=bK (P:=P) (t:=t) hz h hl
    exact ⟨x,g',w',Df rfl hr,h1,h2,SV.E1 h3,h4⟩
 case field s y f=>
  simp only [AS,AB] at hc
  obtain ⟨x,hx,off,ho,n,hn,he⟩:=hc
  cases he
  exact .same fun base g lam Pr N a w0 w h=>by
   obtain ⟨z,hz,hs⟩:=lD (P:=P) (w:=w) ho hn (Aa hx h) hv
   exact ⟨z,Df rfl hz,SV.E1 hs⟩
 case slice t y lo hi mx=>
  cases hu:P.underlying t with
  |none=>rw [hu] at hc;cases hc
  |some d=>
   rw [hu] at hc
   cases d<;>try (cases hc;done)
   · cases mx with
     |some _=>cases hc
     |none=>
      simp only [AS,AB] at hc
      obtain ⟨x,hx,xl,hxl,xh,hxh,hh⟩:=hc
      cases hh
      exact .same fun base g lam Pr N a w0 w h=>by
       obtain ⟨z,hz,hs⟩:=jS (P:=P) (w:=w) hu (Aa hx h) (OJ hxl h) (OJ hxh h) hv
       exact ⟨z,Df rfl hz,SV.E1 hs⟩
   · rename_i e
     cases sh
     · simp only [AY,if_false,AS,AB] at hc
       obtain ⟨x,hx,xl,hxl,xh,hxh,xm,hxm,sz,hsz,hh⟩:=hc
       cases hh
       exact .same fun base g lam Pr N a w0 w h=>by
        obtain ⟨z,hz,hs⟩:=jP (P:=P) (w:=w) hu hsz (Aa hx h) (OJ hxl h) (OJ hxh h) (OJ hxm h) hv
        exact ⟨z,Df rfl hz,SV.E1 hs⟩
     · simp only [if_true] at hc
       obtain ⟨rfl,z,rfl,rfl,x,xh,sz,_,_,_,rfl⟩:=YS hc
       simp [pv] at hv
 case fieldAddr s y f=>
  simp only [AS,AB] at hc
  obtain ⟨x,hx,off,ho,he⟩:=hc
  cases he
  exact .same fun base g lam Pr N a w0 w h=>by
   obtain ⟨z,hz,hs⟩:=hO (P:=P) (w:=w) ho (Aa hx h) hv
   exact ⟨z,Df rfl hz,hs⟩
 case load t y=>
  simp only [AS,AB] at hc
  obtain ⟨x,hx,n,hn,he⟩:=hc
  have hv2:ldA L σ (xv F x) n=some v:=by
   cases lc
   · cases he;exact hv
   · cases he
     have hv:Yi L (xv F x) n=some v:=hv
     cases hxx:xv F x<;>rw [hxx] at hv<;>simp only [Yi] at hv<;>try (cases hv;done)
     exact hv
  exact .same fun base g lam Pr N a w0 w h=>by
   obtain ⟨z,hz,hs⟩:=Zl hn h (Aa hx h) hv2
   exact ⟨z,Df rfl hz,SV.E1 hs⟩
 case store t y z=>
  simp only [AS,AB] at hc
  obtain ⟨x,hx,x2,hx2,n,hn,he⟩:=hc
  cases he
  simp [pv] at hv
 case indexAddr t y i=>
  simp only [AS,AB] at hc
  obtain ⟨x,hx,xi,hxi,e,he,n,hn,hh⟩:=hc
  cases hh
  exact .same fun base g lam Pr N a w0 w h=>by
   obtain ⟨z,hz,hs⟩:=lK (P:=P) (w:=w) he hn (Aa hx h) (Aa hxi h) hv
   exact ⟨z,Df rfl hz,hs⟩
 case index t y i=>
  cases hu:P.underlying t with
  |none=>rw [hu] at hc;cases hc
  |some d=>
   rw [hu] at hc
   cases d<;>try (cases hc;done)
   simp only [AS,AB] at hc
   obtain ⟨x,hx,xi,hxi,hh⟩:=hc
   cases hh
   exact .same fun base g lam Pr N a w0 w h=>by
    obtain ⟨z,hz,hs⟩:=dI (P:=P) (w:=w) hu (Aa hx h) (Aa hxi h) hv
    exact ⟨z,Df rfl hz,hs⟩
 case binOp op t y z t2=>
  cases hu:P.underlying t with
  |none=>rw [hu] at hc;cases hc
  |some d=>
   rw [hu] at hc
   cases d<;>try (cases hc;done)
   case bool=>
    simp only [AS,AB] at hc
    obtain ⟨x,hx,xi,hxi,hh⟩:=hc
    cases hh
    exact .same fun base g lam Pr N a w0 w h=>by
     obtain ⟨u,hz,hs⟩:=bI (P:=P) (w:=w) hu y z (Aa hx h) (Aa hxi h) hv
     exact ⟨u,Df rfl hz,hs⟩
   case pointer e=>
    obtain ⟨rfl,ne,x,hop,hx,rfl⟩:=WZ hc
    exact .same fun base g lam Pr N a w0 w h=>by
     obtain ⟨u,hz,hs⟩:=dB (P:=P) (w:=w) (op:=op) hu hop y (.const (.pointer none)) (Aa hx h) hv
     exact ⟨u,Df rfl hz,hs⟩
   case struct fs=>
    have hc:(if Nb P t then aK op fs.size y z else none)=some c:=hc
    split at hc
    · rename_i his
      obtain ⟨ne,x,xi,hop,hx,hxi,rfl⟩:=Wo hc
      exact .same fun base g lam Pr N a w0 w h=>by
       obtain ⟨u,hz,hs⟩:=dQ (P:=P) (w:=w) hu his hop y z (Aa hx h) (Aa hxi h) hv
       exact ⟨u,Df rfl hz,hs⟩
    · cases hc
   all_goals
    simp only [AS,AB] at hc
    obtain ⟨x,hx,xi,hxi,hh⟩:=hc
    cases hh
    exact .same fun base g lam Pr N a w0 w h=>by
     obtain ⟨u,hz,hs⟩:=gQ (P:=P) (w:=w) (t:=t) y z (Aa hx h) (Aa hxi h) hv
     exact ⟨u,Df rfl hz,hs⟩
 case unOp op t y=>
  simp only [AS,AB] at hc
  obtain ⟨x,hx,hh⟩:=hc
  cases hh
  exact .same fun base g lam Pr N a w0 w h=>by
   obtain ⟨u,hz,hs⟩:=oB (P:=P) (w:=w) (Aa hx h) hv
   exact ⟨u,Df rfl hz,hs⟩
 case convert s t y=>
  cases hu:P.underlying s with
  |none=>rw [hu] at hc;cases hc
  |some d=>
   rw [hu] at hc
   cases d<;>try (cases hc;done)
   cases hu2:P.underlying t with
   |none=>rw [hu2] at hc;cases hc
   |some d2=>
    rw [hu2] at hc
    cases d2<;>try (cases hc;done)
    simp only [AS,AB] at hc
    obtain ⟨x,hx,hh⟩:=hc
    cases hh
    exact .same fun base g lam Pr N a w0 w h=>by
     obtain ⟨u,hz,hs⟩:=bW (P:=P) (w:=w) hu hu2 (Aa hx h) hv
     exact ⟨u,Df rfl hz,hs⟩
 case build t ps=>
  simp only [AS,AB] at hc
  obtain ⟨z,hz,pl,hpl,cps,hcps,hh⟩:=hc
  cases hh
  simp only [pv,AJ] at hv
  obtain ⟨cs,hcs,rfl⟩:=hv
  exact .same fun base g lam Pr N a w0 w h=>by
   obtain ⟨u,hu,hs⟩:=gR hz hpl hcps h hcs
   exact ⟨u,Df rfl hu,SV.E1 hs⟩
 case buildSlice t len ps=>
  simp only [AS,AB] at hc
  obtain ⟨e,he,z,hz,n,hn,hh⟩:=hc
  split at hh
  · rename_i hcond
    simp only [AB] at hh
    obtain ⟨cps,hcps,hh⟩:=hh
    have hv2:pv F L σ (.bsl n len (Aj len z).flatten cps)=some v:=by
     cases sh
     · cases hh;exact hv
     · cases hh;simp [pv] at hv
    simp only [pv,AJ,AB] at hv2
    obtain ⟨l,⟨cs,hcs,hl⟩,rfl⟩:=hv2
    intro base g lam Pr N a w0 w h
    obtain ⟨x,g',w',hr,h1,h2,h3,h4⟩:=gS he hz hn hcond hcps h hcs hl
    exact ⟨x,g',w',Df rfl hr,h1,h2,SV.E1 h3,h4⟩
  · cases hh
 case makeFunc fn first caps=>
  cases fn<;>simp only [AS,AB] at hc<;>try (cases hc;done)
  rename_i f
  obtain ⟨xf,hxf,xc,hxc,hh⟩:=hc
  cases hh
  simp only [pv] at hv
  split at hv
  · rename_i hn
    cases hv
    simp only [CQ,AK] at hn
    exact .same fun base g lam Pr N a w0 w h=>by
     have h1:=OK h first.toList xf hxf hn.1
     have h2:=OK h caps.toList xc hxc hn.2
     refine ⟨.func (.func f) (first.map a.eval) (caps.map a.eval),by simp [execOp,Instr.makeFunc],SV.E1 ?_⟩
     have e1:first.map a.eval=(first.toList.map a.eval).toArray:=Array.ext' (by simp)
     have e2:caps.map a.eval=(caps.toList.map a.eval).toArray:=Array.ext' (by simp)
     rw [e1,e2]
     exact .fn h1.length h2.length h1.idx h2.idx
  · cases hv
 case extract y i=>
  simp only [AJ] at hc
  obtain ⟨x,hx,rfl⟩:=hc
  exact .same fun base g lam Pr N a w0 w h=>by
   obtain ⟨u,hz,hs⟩:=hD (P:=P) (w:=w) (Aa hx h) hv
   exact ⟨u,Df rfl hz,SV.E1 hs⟩
 case nilCheck y=>
  simp only [AJ] at hc
  obtain ⟨x,hx,rfl⟩:=hc
  simp only [pv] at hv
  exact .same fun base g lam Pr N a w0 w h=>by
   have hs:=Aa hx h
   have key:∀p:Addr,a.eval y= .pointer (some p)→(execOp a.eval ⟨dst,.nilCheck y,ty,pos,after,guard⟩).run P w= .ok (.value (.pointer (some p))) w:=by
    intro p hp
    simp only [execOp,hp];rfl
   generalize a.eval y=vy at hs key
   cases hxv:xv F x<;>rw [hxv] at hv hs<;>simp only [mK,AP] at hv<;>try (cases hv;done)
   · rename_i dx
     cases dx<;>simp only [AP] at hv<;>try (cases hv;done)
     subst hv;cases hs with|d hs=>cases hs with|ptr hi hr=>exact ⟨_,key _ rfl,.d (.ptr hi hr)⟩
   · subst hv;obtain ⟨b,hb,rfl⟩:=hs;exact ⟨_,key _ rfl,b,hb,rfl⟩
   · subst hv;cases hs with|gp hm=>exact ⟨_,key _ rfl,.gp hm⟩
   · subst hv;cases hs with|ep hi hr=>exact ⟨_,key _ rfl,.ep hi hr⟩
 case makeSlice t l c=>
  simp only [AS,AB] at hc
  obtain ⟨e,he,i,hi,z,hz,hh⟩:=hc
  split at hh
  · simp only [AB] at hh
    obtain ⟨xl,_,xc,_,hh⟩:=hh
    cases hh
    simp [pv] at hv
  · cases hh
 case call c=>exact bN hc hv
 all_goals (cases hc;done)
end Go.Ab
