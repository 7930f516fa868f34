/- Struct and slice literals, function values; all operations that only yield a value. Every operation that only yields a value does in the model what it does at the abstract level. Conditions: none. -/
import Derived.Test.YtifplkldbbcldaaGreatDoorXAb5
set_option linter.unusedSimpArgs false
set_option linter.unusedVariables false
set_option maxRecDepth 4000
set_option maxHeartbeats 8000000
open List renaming length_cons→AG,all_eq_true→A7,mem_of_mem_take→C2,mem_of_mem_drop→DD,map_cons→AB,all_cons→CC,getElem?_cons_succ→ZH,drop_drop→DC,getElem_of_mem→Cp,getElem?_eq_getElem→Az,length_take→Bj,length_drop→Ah,getElem?_eq_some_iff→A3,getElem?_take→CD,getElem?_drop→BM,getD_eq_getElem?_getD→VZ,replicate→Ai,flatten_cons→F7,flatten_append→Ma,map_append→Ax,all_append→Ce
open Nat renaming add_zero→E9,add_mul→CM,zero_le→C3,le_refl→A4,succ_mul→Ly,mul_le_mul_right→Aj,zero_add→Bd,le_trans→Ay
open Array renaming length_toList→Co,range→SN
open Option.some renaming injEq→AQ,inj→DK
open Option renaming bind_eq_bind→AU,bind_eq_some_iff→AF,map_eq_some_iff→AM
open Bool renaming and_eq_true→AR,false_eq_true→AL
open Go renaming undef→Cs
namespace Go.Ab
open Go.RowKit
variable {P:Program} {base N:Nat} {g g':Gh} {Pr:Nat→Prop} {σ σ':AK} {w0 w w':World} {lam:Nat→Option Nat} {F:Fm} {L:Lm} {a:Act}
theorem eA (off:Nat):∀(vs:List Value) (k:Nat) (cells:Array Value),off+k+vs.length≤cells.size→
 (vs.zipIdx k).foldl (fun cs (x:Value×Nat)=>cs.setIfInBounds (off+x.2) x.1) cells=(cells.toList.take (off+k)++vs++cells.toList.drop (off+k+vs.length)).toArray
 |[],k,cells,h=>by simp
 |v::vs,k,cells,h=>by
  simp only [List.zipIdx_cons,List.foldl_cons]
  have hl:off+k+(vs.length+1)≤cells.size:=by simpa using h
  rw [eA off vs (k+1) _ (by simp;omega)]
  have:=list_seg_step cells.toList (off+k) v vs (by simpa using hl)
  simp only [Array.toList_setIfInBounds,AG]
  rw [show off+(k+1)=off+k+1 by omega,this]
theorem q9 (off:Nat) (v:Value) (cells:Array Value) (h:off+v.cells.size≤cells.size):
 v.cells.zipIdx.foldl (fun cs (c,j)=>cs.setIfInBounds (off+j) c) cells=(cells.toList.take off++v.cells.toList++cells.toList.drop (off+v.cells.size)).toArray:=by
 have:=eA off v.cells.toList 0 cells (by simpa using h)
 simp only [E9,Co] at this
 rw [← this,← Array.foldl_toList]
 simp
theorem Fo {x y:List AV}:Ag (x++y)=(Ag x&&Ag y):=by simp [Ag]
theorem Me {x:List AV} (n:Nat) (h:Ag x=true):Ag (x.take n)=true:=by
 simp only [Ag,A7] at *
 exact fun c hc=>h c (C2 hc)
theorem QF {x:List AV} (n:Nat) (h:Ag x=true):Ag (x.drop n)=true:=by
 simp only [Ag,A7] at *
 exact fun c hc=>h c (DD hc)
theorem NM {x:AV} (h:Ag x.cells=true):x.BL=true:=by cases x<;>first|rfl|(simp [AV.cells,Ag,AV.CB] at h)
theorem QJ (h:B2 base g lam Pr N F L σ a w0 w) (pl:Nat→Option (Nat×Nat)):∀(ps:List (Nat×Operand)) (cps:List (Nat×Nat×X)) (z:List AV) (zc:Array Value) (cs:List AV),
 Q4 pl ps=some cps→VRs g z zc.toList→Ag z=true→Ip z F cps=some cs→
 ∃cells,Instr.fill pl zc (ps.map fun p=>(p.1,a.eval p.2))=some cells∧VRs g cs cells.toList∧Ag cs=true
 |[],cps,z,zc,cs,hp,hz,hok,hf=>by
  simp only [Q4,AQ] at hp;subst hp
  simp only [Ip,AQ] at hf;subst hf
  exact ⟨zc,rfl,hz,hok⟩
 |(i,y)::ps,cps,z,zc,cs,hp,hz,hok,hf=>by
  simp only [Q4,AU,AF] at hp
  obtain ⟨⟨off,n⟩,hpl,x,hx,cps',hcps,hc⟩:=hp
  cases hc
  simp only [Ip] at hf
  split at hf
  · rename_i hcond
    simp only [AR,beq_iff_eq,decide_eq_true_eq] at hcond
    obtain ⟨⟨hck,hln⟩,hle⟩:=hcond
    have hsv:=(Ad hx h).vr (NM hck)
    have hcells:=hsv.cells hck
    have hsize:(a.eval y).cells.size=n:=by have:=hcells.length;simpa [hln] using this
    have hzl:=hz.length
    have hfit:off+(a.eval y).cells.size≤zc.size:=by simp at hzl;omega
    have hz':VRs g (z.take off++(xv F x).cells++z.drop (off+n)) ((zc.toList.take off++(a.eval y).cells.toList++zc.toList.drop (off+(a.eval y).cells.size)).toArray).toList:=by
     simp only [hsize]
     exact ((hz.take off).append hcells).append (hz.drop (off+n))
    have hok':Ag (z.take off++(xv F x).cells++z.drop (off+n))=true:=by
     simp [Fo,Me _ hok,QF _ hok,hck]
    obtain ⟨cells,hfill,hr,hck'⟩:=QJ h pl ps cps' _ _ cs hcps hz' hok' hf
    refine ⟨cells,?_,hr,hck'⟩
    have hno:¬(off+n>zc.size):=by omega
    simp only [AB,Instr.fill,hpl]
    rw [if_neg (by simp [hsize];omega),q9 off (a.eval y) zc hfit]
    exact hfill
  · cases hf
theorem Wi:∀(l:List Value) (cs:List AV),cvs l=some cs→∀g:Gh,VRs g cs l∧Ag cs=true
 |[],cs,h,g=>by simp only [cvs,AQ] at h;subst h;exact ⟨.nil,rfl⟩
 |v::l,cs,h,g=>by
  simp only [cvs,AU,AF] at h
  obtain ⟨c,hc,cs',hcs,he⟩:=h
  cases he
  obtain ⟨h1,h2⟩:=Wi l cs' hcs g
  refine ⟨.cons (iJ hc g) h1,?_⟩
  simp only [Ag,CC,AR]
  exact ⟨yS hc,h2⟩
theorem GU {t:TypeId} {z:List AV} (h:M7 P t=some z):∃i zv,P.info? t=some i∧i.zero=some zv∧Ag z=true∧∀g:Gh,VRs g z zv.cells.toList:=by
 simp only [M7,AU,AF] at h
 obtain ⟨i,hi,zv,hz,hc⟩:=h
 exact ⟨i,zv,hi,hz,(Wi _ _ hc ⟨fun _ _=>none,fun _=>none,fun _=>none,fun _=>none⟩).2,fun g=>(Wi _ _ hc g).1⟩
theorem qP {t:TypeId} {z:List AV} {pl:Nat→Option (Nat×Nat)} {ps:Array (Nat×Operand)} {cps:List (Nat×Nat×X)} (hz:M7 P t=some z) (hpl:places P t=some pl)
 (hp:Q4 pl ps.toList=some cps) (h:B2 base g lam Pr N F L σ a w0 w) {cs:List AV} (hf:Ip z F cps=some cs):
 ∃x,(Instr.build t (ps.map fun (i,x)=>(i,a.eval x))).run P w= .ok x w∧VR g (.agg cs) x:=by
 obtain ⟨i,zv,hi,hzv,hok,hvr⟩:=GU hz
 obtain ⟨cells,hfill,hr,hck⟩:=QJ h pl ps.toList cps z zv.cells cs hp (hvr g) hok hf
 have hb:P.built t (ps.map fun (i,x)=>(i,a.eval x)).toList=some cells:=by
  unfold Program.built places at *
  have hm:(ps.map fun (i,x)=>(i,a.eval x)).toList=ps.toList.map fun p=>(p.1,a.eval p.2):=by simp
  rw [hm]
  cases hu:P.underlying t with
  |none=>rw [hu] at hpl;cases hpl
  |some d=>
   rw [hu] at hpl
   cases d<;>try (cases hpl;done)
   case array n e=>
    simp only [AM] at hpl
    obtain ⟨ie,hie,rfl⟩:=hpl
    simp only [hi,hzv,hie];exact hfill
   case struct fs=>
    simp only [AM] at hpl
    obtain ⟨pp,hpp,rfl⟩:=hpl
    simp only [hi,hzv,hpp];exact hfill
 refine ⟨_,run_build w t _ cells hb,?_⟩
 have:cells=cells.toList.toArray:=by simp
 rw [this]
 simp only [Ag,A7] at hck
 exact .agg hr.length hck hr.idx
theorem B2.step (h:B2 base g lam Pr N F L σ a w0 w) (hg:g.le g') (hloc:∀k b,lam k=some b→w'.heap[b]?=w.heap[b]?)
 (hrel:Rel base g' (fun b=>Pr b∨∃k,lam k=some b) σ' w0 w'):B2 base g' lam Pr N F L σ' a w0 w':=by
 refine ⟨fun s=>(h.tm s).mono hg,h.sz,h.df,fun k cs hk=>?_,h.inj,h.npr,hrel⟩
 obtain ⟨hok,b,vs,ty,hb,hlow,hheap,hr⟩:=h.loc k cs hk
 exact ⟨hok,b,vs,ty,hb,hlow,by rw [hloc k b hb];exact hheap,hr.mono hg⟩
theorem B2.Ie (h:B2 base g lam Pr N F L σ a w0 w) {k b:Nat} (hk:lam k=some b):b < w.heap.size:=(h.rel.pr b (.inr ⟨k,hk⟩)).1
theorem Xh {o:Obj} (hb:base≤w.heap.size):Below base w (w.alloc o):=(Below.refl base w).alloc hb o
theorem Rel.alloc (h:Rel base g Pr σ w0 w) (o:Obj):Rel base g Pr σ w0 (w.alloc o):=
 h.grow (by simp) (fun b hb _=>heap_alloc_old w o b hb) (Xh h.bs) (fun b hp=>⟨by have:=(h.pr b hp).1;simp;omega,.inl hp⟩)
theorem FQ (size:Nat):∀(n:Nat) (l:List DV),(chunk size n l).length=n
 |0,_=>rfl
 |n+1,l=>by simp [chunk,FQ size n]
theorem T4 (size:Nat):∀(n:Nat) (l:List DV) (i:Nat),i < n→(chunk size n l)[i]?=some ((l.drop (i * size)).take size)
 |0,_,i,h=>by omega
 |n+1,l,0,_=>by simp [chunk]
 |n+1,l,i+1,h=>by
  simp only [chunk,ZH]
  rw [T4 size n (l.drop size) i (by omega),DC,CM,Nat.one_mul,Nat.add_comm]
theorem T6:∀(cs:List AV) (l:List DV),dvs cs=some l→∀vs,VRs g cs vs→l.length=cs.length∧∀(j:Nat) (x:DV),l[j]?=some x→∃v,vs[j]?=some v∧RD g.im x v
 |[],l,h,vs,hr=>by simp only [dvs,AQ] at h;subst h;exact ⟨rfl,fun j x hx=>by simp at hx⟩
 |c::cs,l,h,vs,hr=>by
  simp only [dvs,AU,AF] at h
  obtain ⟨x,hx,l',hl',he⟩:=h
  cases he
  cases hr with
  |@cons _ v _ vs' hcv hrs=>
   obtain ⟨h1,h2⟩:=T6 cs l' hl' vs' hrs
   refine ⟨by simp [h1],fun j y hy=>?_⟩
   cases j with
   |zero=>
    simp at hy;subst hy
    refine ⟨v,rfl,?_⟩
    cases c<;>simp only [AV.dv,AQ] at hx<;>first
     |(cases hx;done)
     |(subst hx;cases hcv with|d h=>exact h)
     |(subst hx;cases hcv;exact .nil (C3 _) (fun _=>rfl))
     |(subst hx;cases hcv with|own h _ _=>exact h)
     |(subst hx;cases hcv with|clip h=>exact h)
     |(subst hx;cases hcv;exact .FN)
   |succ j=>simpa using h2 j y (by simpa using hy)
theorem RD.fresh {im:Nat→Nat→Option Value} {b n size:Nat} {l:List DV} {cells:List Value} (hl:l.length=n * size) (hn:n≤maxLen) (hc:cells.length=n * size)
 (him:∀o v,cells[o]?=some v→im b o=some v) (hr:∀(j:Nat) (x:DV),l[j]?=some x→∃v,cells[j]?=some v∧RD im x v):
 RD im (.sl (chunk size n l)) (.slice (some ⟨b,0,none⟩) n n):=by
 have hgoal:RD im (.sl (chunk size n l)) (.slice (some ⟨b,0,none⟩) (chunk size n l).length n):=by
  refine .sl (size:=size) (f:=fun i j=>cells.getD (i * size+j) (.bool false)) (by rw [FQ];exact A4 _) hn ?_ ?_ ?_
  · intro r hrm
    obtain ⟨i,hi,rfl⟩:=Cp hrm
    rw [FQ] at hi
    have:=T4 size n l i hi
    rw [Az (by rw [FQ];exact hi)] at this
    rw [DK this]
    rw [Bj,Ah,hl]
    have:i * size+size≤n * size:=by rw [← Ly];exact Aj _ hi
    omega
  · intro i j hi hj
    rw [FQ] at hi
    have:i * size+size≤n * size:=by rw [← Ly];exact Aj _ hi
    have hlt:i * size+j < cells.length:=by omega
    rw [Bd]
    refine him _ _ ?_
    simp [Az hlt]
  · intro i r j x hi hj
    have hin:i < n:=by have:=(A3.1 hi).1;rwa [FQ] at this
    rw [T4 size n l i hin] at hi
    cases hi
    rw [CD] at hj
    split at hj
    · rw [BM] at hj
      obtain ⟨v,hv,hrd⟩:=hr _ _ hj
      rw [VZ,hv]
      exact hrd
    · cases hj
 rwa [FQ] at hgoal
theorem VRs.flatten {z:List AV} {zc:List Value} (h:VRs g z zc):∀n:Nat,VRs g (Ai n z).flatten (Ai n zc).flatten
 |0=>by simpa using .nil
 |n+1=>by simp only [List.replicate_succ,F7];exact h.append (VRs.flatten h n)
theorem E4 {z:List AV} (h:Ag z=true):∀n:Nat,Ag (Ai n z).flatten=true
 |0=>rfl
 |n+1=>by simp only [List.replicate_succ,F7,Fo,h,E4 h n,Bool.and_self]
theorem range_zero (z:Array Value) (size:Nat) (hz:z.size=size) (h0:0 < size):∀n:Nat,((SN (n * size)).map (z[· % z.size]!)).toList=(Ai n z.toList).flatten
 |0=>by simp
 |n+1=>by
  have ih:=range_zero z size hz h0 n
  have e1:(Ai (n+1) z.toList).flatten=(Ai n z.toList).flatten++z.toList:=by
   rw [List.replicate_succ',Ma];simp
  rw [e1,← ih]
  simp only [Array.toList_map,Array.toList_range,CM,Nat.one_mul,List.range_add,Ax,List.map_map]
  congr 1
  apply List.ext_getElem
  · simp [hz]
  · intro i h1 h2
    simp at h1 h2
    have:(n * size+i) % z.size=i:=by rw [hz,Nat.add_comm,Nat.add_mul_mod_self_right];exact Nat.mod_eq_of_lt h1
    simp [this,h2]
theorem Bk {α:Type} (l:List α):∀n:Nat,(Ai n l).flatten.length=n * l.length
 |0=>by simp
 |n+1=>by simp [List.replicate_succ,Bk l n,CM];omega
theorem QI (F:Fm):∀(cps:List (Nat×Nat×X)) (z cs:List AV),Ip z F cps=some cs→cs.length=z.length
 |[],z,cs,h=>by simp only [Ip,AQ] at h;subst h;rfl
 |(off,n,x)::cps,z,cs,h=>by
  simp only [Ip] at h
  split at h
  · rename_i hc
    simp only [AR,beq_iff_eq,decide_eq_true_eq] at hc
    rw [QI F cps _ cs h]
    simp;omega
  · cases h
theorem qQ {t e:TypeId} {n len:Nat} {z:List AV} {ps:Array (Nat×Operand)} {cps:List (Nat×Nat×X)} (he:NO P t=some e) (hz:M7 P e=some z) (hn:szT P e=some n)
 (hzn:z.length=n∧0 < n∧len * n≤4096∧len≤4096) (hp:Q4 (fun i=>some (i * n,n)) ps.toList=some cps) (h:B2 base g lam Pr N F L σ a w0 w) {cs:List AV} {l:List DV}
 (hf:Ip (Ai len z).flatten F cps=some cs) (hd:dvs cs=some l):
 ∃x g' w',(Instr.buildSlice t len (ps.map fun (i,x)=>(i,a.eval x))).run P w= .ok x w'∧g.le g'∧KP Pr w w'∧VR g' (.d (.sl (chunk n len l))) x∧B2 base g' lam Pr N F L σ a w0 w':=by
 obtain ⟨hzl,h0,hsmall,hlen⟩:=hzn
 obtain ⟨i,zv,hi,hzv,hok,hvr⟩:=GU hz
 have hu:P.underlying t=some (.slice e):=by
  unfold NO at he
  split at he
  · rename_i e' hh;cases he;exact hh
  · cases he
 have hzs:zv.cells.size=n:=by have:=(hvr g).length;simp at this;omega
 have hinit:VRs g (Ai len z).flatten ((SN (len * n)).map (zv.cells[· % zv.cells.size]!)).toList:=by
  rw [range_zero zv.cells n hzs h0 len];exact (hvr g).flatten len
 obtain ⟨cells,hfill,hr,hck⟩:=QJ h _ ps.toList cps _ _ cs hp hinit (E4 hok len) hf
 have hcl:cells.size=len * n:=by
  have h1:=hr.length
  have h2:=QI F cps _ cs hf
  have h3:=Bk z len
  simp at h1;rw [h1,h2,h3,hzl]
 have hrun:(Instr.buildSlice t len (ps.map fun (i,x)=>(i,a.eval x))).run P w= .ok (.slice (some ⟨w.heap.size,0,none⟩) len len) (w.alloc (.cells cells e)):=by
  have hm:(ps.map fun (i,x)=>(i,a.eval x)).toList=ps.toList.map fun p=>(p.1,a.eval p.2):=by simp
  have hno:¬(len * n>2 ^ 24):=Nat.not_lt.2 (Ay hsmall (by decide))
  unfold Instr.buildSlice
  simp only [Sem.run_bind,BS hu,Result.andThen_ok,Eb hn,hm]
  rw [if_neg hno]
  by_cases h00:len * n=0
  · have hr0:SN 0=#[]:=rfl
    rw [h00,hr0] at hfill
    simp only [h00,if_true,pure_bind,hr0,Array.map_empty] at hfill ⊢
    simp only [hfill,Sem.run_bind,newRow,run_newObj,Result.andThen_ok,Sem.run_pure,World.alloc_eq]
  · simp only [if_neg h00,Sem.run_bind,zeroValue,typeInfo,run_program,Result.andThen_ok,hi,Sem.run_pure,hzv,hfill,newRow,run_newObj,World.alloc_eq]
 have hrel:=h.rel.settle (n:=len * n) (vs:=cells) (b:=w.heap.size) (A4 _) (h.rel.alloc (.cells cells e)) (fun o=>by simp)
 have hle:=h.rel.Tc w.heap.size (len * n) cells (A4 _)
 refine ⟨_,g.settle w.heap.size (len * n) cells,_,hrun,hle,⟨by simp,fun b hp=>heap_alloc_old w _ b (h.rel.pr b (.inl hp)).1⟩,?_,h.step hle (fun k b hb=>heap_alloc_old w _ b (h.Ie hb)) hrel⟩
 obtain ⟨hll,hrd⟩:=T6 cs l hd _ (hr.mono hle)
 have h1:=hr.length
 refine .d (RD.fresh (cells:=cells.toList) (by simp at h1;omega) (by simp only [maxLen];omega) (by simpa using hcl) (fun o v hv=>?_) hrd)
 have:o < len * n:=by have:=(A3.1 hv).1;simp at this;omega
 simp only [Gh.settle,if_true,if_pos this]
 simpa using hv
theorem k9 {t:TypeId} {y:Operand} {x:X} (hx:xo y=some x) (h:B2 base g lam Pr N F L σ a w0 w) {l:List DV} (hd:dvs (xv F x).cells=some l):
 ∃z g' w',(Instr.box t (a.eval y)).run P w= .ok z w'∧g.le g'∧KP Pr w w'∧VR g' (.d (.ptr l)) z∧B2 base g' lam Pr N F L σ a w0 w':=by
 have hok:Ag (xv F x).cells=true:=by
  have:∀(cs:List AV) (l:List DV),dvs cs=some l→Ag cs=true:=by
   intro cs
   induction cs with
   |nil=>intro l h;rfl
   |cons c cs ih=>
    intro l h
    simp only [dvs,AU,AF] at h
    obtain ⟨x,hx,l',hl',_⟩:=h
    simp only [Ag,CC,AR]
    refine ⟨?_,ih l' hl'⟩
    cases c<;>first|rfl|(simp [AV.dv] at hx)
  exact this _ _ hd
 have hv:=((Ad hx h).vr (NM hok)).cells hok
 have hrun:(Instr.box t (a.eval y)).run P w= .ok (.pointer (some ⟨w.heap.size,0,none⟩)) (w.alloc (.cells (a.eval y).cells t)):=by simp [Instr.box,newVar,newRow]
 have hrel:=h.rel.settle (n:=(a.eval y).cells.size) (vs:=(a.eval y).cells) (b:=w.heap.size) (A4 _) (h.rel.alloc (.cells (a.eval y).cells t)) (fun o=>by simp)
 have hle:=h.rel.Tc w.heap.size (a.eval y).cells.size (a.eval y).cells (A4 _)
 refine ⟨_,g.settle w.heap.size (a.eval y).cells.size (a.eval y).cells,_,hrun,hle,⟨by simp,fun b hp=>heap_alloc_old w _ b (h.rel.pr b (.inl hp)).1⟩,?_,h.step hle (fun k b hb=>heap_alloc_old w _ b (h.Ie hb)) hrel⟩
 obtain ⟨hll,hrd⟩:=T6 _ l hd _ (hv.mono hle)
 have h1:=hv.length
 refine .d (.ptr (f:=fun j=>((a.eval y).cells.toList[j]?).getD Cs) (fun j hj=>?_) (fun j x hx=>?_))
 · have hlt:j < (a.eval y).cells.size:=by simp at h1;omega
   simp [Gh.settle,hlt]
 · obtain ⟨v,hv',hr'⟩:=hrd j x hx
   rw [hv'];exact hr'
theorem Px (h:B2 base g lam Pr N F L σ a w0 w):∀(l:List Operand) (xs:List X),xos l=some xs→((xvs F xs).all AV.BL=true)→VRs g (xvs F xs) (l.map a.eval)
 |[],xs,hx,_=>by simp only [xos,AQ] at hx;subst hx;exact .nil
 |y::l,xs,hx,hn=>by
  simp only [xos,AU,AF] at hx
  obtain ⟨x,hx1,xs',hxs,he⟩:=hx
  cases he
  simp only [xvs,AB,CC,AR] at hn
  exact .cons ((Ad hx1 h).vr hn.1) (Px h l xs' hxs hn.2)
theorem mW {c x y v:AV} {cvl xvl yvl:Value} (hc:SV g lam c cvl) (hx:SV g lam x xvl) (hy:SV g lam y yvl) (hv:jM c x y=some v):
 ∃z,((do pure (.value (if ← asBool cvl then xvl else yvl)):Sem Next)).run P w= .ok (.value z) w∧SV g lam v z:=by
 cases c with
 |d c=>cases c with
  |bool b=>
   cases hc with|d hc=>
   cases hc
   cases hv
   cases b
   · exact ⟨yvl,by simp [asBool],by simpa using hy⟩
   · exact ⟨xvl,by simp [asBool],by simpa using hx⟩
  |_=>cases hv
 |_=>cases hv
theorem GW {t e:TypeId} (he:NO P t=some e):P.underlying t=some (.slice e):=by
 unfold NO at he
 split at he
 · rename_i e' hh;cases he;exact hh
 · cases he
end Go.Ab
namespace Go.Ab
open Go.RowKit
variable {P:Program} {σ:AK} {F:Fm} {L:Lm}
theorem ED {ρ:Operand→Value} {o:Oper} {s:Sem Value} (h:execOp ρ o=(do pure (.value (← s)):Sem Next)) {w w':World} {x:Value} (hs:s.run P w= .ok x w'):
 (execOp ρ o).run P w= .ok (.value x) w':=by rw [h];simp [hs]
theorem lD {dst:Option Tmp} {c:Call} {ty:TypeId} {pos:String} {after:Array Edge} {guard:Option (Nat×Bool)} {co:O} {v:AV} {sh:Bool} (hc:Ve P sh c=some co) (hv:pv F L σ co=some v):
 VOp P ⟨dst,.call c,ty,pos,after,guard⟩ F L σ v:=by
 obtain ⟨callee,args,argTypes⟩:=c
 obtain ⟨args⟩:=args
 obtain ⟨argTypes⟩:=argTypes
 unfold Ve at hc
 cases callee with
 |invoke r m=>cases hc
 |value f=>
  cases f<;>simp only at hc
  · simp only [AM] at hc
    obtain ⟨xs,_,rfl⟩:=hc
    simp [pv] at hv
  · cases hc
  · cases hc
  · split at hc
    · simp only [AM] at hc
      obtain ⟨xs,_,rfl⟩:=hc
      simp [pv] at hv
    · cases hc
 |builtin b=>
  simp only at hc
  unfold uD at hc
  split at hc
  · rename_i x t
    cases hu:P.underlying t with
    |none=>rw [hu] at hc;cases hc
    |some d=>
     rw [hu] at hc
     cases d<;>try (cases hc;done)
     · simp only [AM] at hc
       obtain ⟨xx,hx,rfl⟩:=hc
       exact .same fun base g lam Pr N a w0 w h=>by
        obtain ⟨u,hz,hs⟩:=nS (P:=P) (w:=w) hu ty (Ad hx h) hv
        exact ⟨u,by simp [execOp,resolve,invoke,builtin,hz],hs⟩
     · simp only [AM] at hc
       obtain ⟨xx,hx,rfl⟩:=hc
       exact .same fun base g lam Pr N a w0 w h=>by
        obtain ⟨u,hz,hs⟩:=rY (P:=P) (w:=w) hu ty (Ad hx h) hv
        exact ⟨u,by simp [execOp,resolve,invoke,builtin,hz],hs⟩
  · simp only [AU,AF] at hc
    obtain ⟨x,hx,x2,hx2,hh⟩:=hc
    cases hh
    exact .same fun base g lam Pr N a w0 w h=>by
     obtain ⟨u,hz,hs⟩:=Vy (P:=P) (w:=w) (b:=true) argTypes.toArray ty (Ad hx h) (Ad hx2 h) hv
     exact ⟨u,by simp only [if_true] at hz;simp [execOp,resolve,invoke,builtin,hz],hs⟩
  · simp only [AU,AF] at hc
    obtain ⟨x,hx,x2,hx2,x3,hx3,hh⟩:=hc
    cases hh
    simp only [pv,AF] at hv
    obtain ⟨v1,hv1,hv2⟩:=hv
    exact .same fun base g lam Pr N a w0 w h=>by
     have hs1:=Ad hx h
     have hs2:=Ad hx2 h
     have hs3:=Ad hx3 h
     obtain ⟨u,hz,hs⟩:=Vy (P:=P) (w:=w) (b:=true) argTypes.toArray ty hs1 hs2 hv1
     obtain ⟨u2,hz2,hs'⟩:=Vy (P:=P) (w:=w) (b:=true) argTypes.toArray ty hs hs3 hv2
     refine ⟨u2,?_,hs'⟩
     simp only [if_true,Builtin.max_] at hz hz2
     simp only [List.foldlM_cons,List.foldlM_nil,bind_pure] at hz hz2
     simp [execOp,resolve,invoke,builtin,Builtin.max_,hz,hz2]
  · simp only [AU,AF] at hc
    obtain ⟨x,hx,x2,hx2,hh⟩:=hc
    cases hh
    exact .same fun base g lam Pr N a w0 w h=>by
     obtain ⟨u,hz,hs⟩:=Vy (P:=P) (w:=w) (b:=false) argTypes.toArray ty (Ad hx h) (Ad hx2 h) hv
     exact ⟨u,by simp only [AL,if_false] at hz;simp [execOp,resolve,invoke,builtin,hz],hs⟩
  · simp only [AU,AF] at hc
    obtain ⟨e,_,i,_,z,_,hh⟩:=hc
    split at hh
    · simp only [AF] at hh
      obtain ⟨xl,_,xc,_,hh⟩:=hh
      cases sh
      · cases hh;simp [pv] at hv
      · cases hh;simp [pv] at hv
    · cases hh
  · cases hc
theorem wR {sh im lc:Bool} {o:Oper} {c:O} {v:AV} (hc:dV P sh im lc o.op=some c) (hv:pv F L σ c=some v):VOp P o F L σ v:=by
 obtain ⟨dst,op,ty,pos,after,guard⟩:=o
 cases op<;>simp only [dV] at hc
 case move y=>
  simp only [AM] at hc
  obtain ⟨x,hx,rfl⟩:=hc
  simp only [pv,AQ] at hv;subst hv
  exact .same fun base g lam Pr N a w0 w h=>⟨a.eval y,by simp [execOp],Ad hx h⟩
 case assign y=>
  simp only [AM] at hc
  obtain ⟨x,hx,rfl⟩:=hc
  simp only [pv,AQ] at hv;subst hv
  exact .same fun base g lam Pr N a w0 w h=>⟨a.eval y,by simp [execOp],Ad hx h⟩
 case pick c y z=>
  simp only [AU,AF] at hc
  obtain ⟨xc,h1,xy,h2,xz,h3,he⟩:=hc
  cases he
  exact .same fun base g lam Pr N a w0 w h=>mW (Ad h1 h) (Ad h2 h) (Ad h3 h) hv
 case alloc t=>
  simp only [AM] at hc
  obtain ⟨z,hz,rfl⟩:=hc
  simp [pv] at hv
 case box t y=>
  simp only [AM] at hc
  obtain ⟨z,hz,rfl⟩:=hc
  cases im
  · simp [pv] at hv
  · simp only [if_true,pv,AM] at hv
    obtain ⟨l,hl,rfl⟩:=hv
    intro base g lam Pr N a w0 w h
    obtain ⟨x,g',w',hr,h1,h2,h3,h4⟩:=k9 (P:=P) (t:=t) hz h hl
    exact ⟨x,g',w',ED rfl hr,h1,h2,SV.En h3,h4⟩
 case field s y f=>
  simp only [AU,AF] at hc
  obtain ⟨x,hx,off,ho,n,hn,he⟩:=hc
  cases he
  exact .same fun base g lam Pr N a w0 w h=>by
   obtain ⟨z,hz,hs⟩:=uL (P:=P) (w:=w) ho hn (Ad hx h) hv
   exact ⟨z,ED rfl hz,SV.En hs⟩
 case slice t y lo hi mx=>
  cases hu:P.underlying t with
  |none=>rw [hu] at hc;cases hc
  |some d=>
   rw [hu] at hc
   cases d<;>try (cases hc;done)
   · cases mx with
     |some _=>cases hc
     |none=>
      simp only [AU,AF] at hc
      obtain ⟨x,hx,xl,hxl,xh,hxh,hh⟩:=hc
      cases hh
      exact .same fun base g lam Pr N a w0 w h=>by
       obtain ⟨z,hz,hs⟩:=sX (P:=P) (w:=w) hu (Ad hx h) (Pw hxl h) (Pw hxh h) hv
       exact ⟨z,ED rfl hz,SV.En hs⟩
   · rename_i e
     cases sh
     · simp only [AL,if_false,AU,AF] at hc
       obtain ⟨x,hx,xl,hxl,xh,hxh,xm,hxm,sz,hsz,hh⟩:=hc
       cases hh
       exact .same fun base g lam Pr N a w0 w h=>by
        obtain ⟨z,hz,hs⟩:=sW (P:=P) (w:=w) hu hsz (Ad hx h) (Pw hxl h) (Pw hxh h) (Pw hxm h) hv
        exact ⟨z,ED rfl hz,SV.En hs⟩
     · simp only [if_true] at hc
       obtain ⟨rfl,z,rfl,rfl,x,xh,sz,_,_,_,rfl⟩:=fH hc
       simp [pv] at hv
 case fieldAddr s y f=>
  simp only [AU,AF] at hc
  obtain ⟨x,hx,off,ho,he⟩:=hc
  cases he
  exact .same fun base g lam Pr N a w0 w h=>by
   obtain ⟨z,hz,hs⟩:=rB (P:=P) (w:=w) ho (Ad hx h) hv
   exact ⟨z,ED rfl hz,hs⟩
 case load t y=>
  simp only [AU,AF] at hc
  obtain ⟨x,hx,n,hn,he⟩:=hc
  have hv2:ldA L σ (xv F x) n=some v:=by
   cases lc
   · cases he;exact hv
   · cases he
     have hv:gC L (xv F x) n=some v:=hv
     cases hxx:xv F x<;>rw [hxx] at hv<;>simp only [gC] at hv<;>try (cases hv;done)
     exact hv
  exact .same fun base g lam Pr N a w0 w h=>by
   obtain ⟨z,hz,hs⟩:=jD hn h (Ad hx h) hv2
   exact ⟨z,ED rfl hz,SV.En hs⟩
 case store t y z=>
  simp only [AU,AF] at hc
  obtain ⟨x,hx,x2,hx2,n,hn,he⟩:=hc
  cases he
  simp [pv] at hv
 case indexAddr t y i=>
  simp only [AU,AF] at hc
  obtain ⟨x,hx,xi,hxi,e,he,n,hn,hh⟩:=hc
  cases hh
  exact .same fun base g lam Pr N a w0 w h=>by
   obtain ⟨z,hz,hs⟩:=uU (P:=P) (w:=w) he hn (Ad hx h) (Ad hxi h) hv
   exact ⟨z,ED rfl hz,hs⟩
 case index t y i=>
  cases hu:P.underlying t with
  |none=>rw [hu] at hc;cases hc
  |some d=>
   rw [hu] at hc
   cases d<;>try (cases hc;done)
   simp only [AU,AF] at hc
   obtain ⟨x,hx,xi,hxi,hh⟩:=hc
   cases hh
   exact .same fun base g lam Pr N a w0 w h=>by
    obtain ⟨z,hz,hs⟩:=nQ (P:=P) (w:=w) hu (Ad hx h) (Ad hxi h) hv
    exact ⟨z,ED rfl hz,hs⟩
 case binOp op t y z t2=>
  cases hu:P.underlying t with
  |none=>rw [hu] at hc;cases hc
  |some d=>
   rw [hu] at hc
   cases d<;>try (cases hc;done)
   case bool=>
    simp only [AU,AF] at hc
    obtain ⟨x,hx,xi,hxi,hh⟩:=hc
    cases hh
    exact .same fun base g lam Pr N a w0 w h=>by
     obtain ⟨u,hz,hs⟩:=k7 (P:=P) (w:=w) hu y z (Ad hx h) (Ad hxi h) hv
     exact ⟨u,ED rfl hz,hs⟩
   case pointer e=>
    obtain ⟨rfl,ne,x,hop,hx,rfl⟩:=aC hc
    exact .same fun base g lam Pr N a w0 w h=>by
     obtain ⟨u,hz,hs⟩:=nB (P:=P) (w:=w) (op:=op) hu hop y (.const (.pointer none)) (Ad hx h) hv
     exact ⟨u,ED rfl hz,hs⟩
   case struct fs=>
    have hc:(if PS P t then kI op fs.size y z else none)=some c:=hc
    split at hc
    · rename_i his
      obtain ⟨ne,x,xi,hop,hx,hxi,rfl⟩:=bM hc
      exact .same fun base g lam Pr N a w0 w h=>by
       obtain ⟨u,hz,hs⟩:=nW (P:=P) (w:=w) hu his hop y z (Ad hx h) (Ad hxi h) hv
       exact ⟨u,ED rfl hz,hs⟩
    · cases hc
   all_goals
    simp only [AU,AF] at hc
    obtain ⟨x,hx,xi,hxi,hh⟩:=hc
    cases hh
    exact .same fun base g lam Pr N a w0 w h=>by
     obtain ⟨u,hz,hs⟩:=qO (P:=P) (w:=w) (t:=t) y z (Ad hx h) (Ad hxi h) hv
     exact ⟨u,ED rfl hz,hs⟩
 case unOp op t y=>
  simp only [AU,AF] at hc
  obtain ⟨x,hx,hh⟩:=hc
  cases hh
  exact .same fun base g lam Pr N a w0 w h=>by
   obtain ⟨u,hz,hs⟩:=xZ (P:=P) (w:=w) (Ad hx h) hv
   exact ⟨u,ED rfl hz,hs⟩
 case convert s t y=>
  cases hu:P.underlying s with
  |none=>rw [hu] at hc;cases hc
  |some d=>
   rw [hu] at hc
   cases d<;>try (cases hc;done)
   cases hu2:P.underlying t with
   |none=>rw [hu2] at hc;cases hc
   |some d2=>
    rw [hu2] at hc
    cases d2<;>try (cases hc;done)
    simp only [AU,AF] at hc
    obtain ⟨x,hx,hh⟩:=hc
    cases hh
    exact .same fun base g lam Pr N a w0 w h=>by
     obtain ⟨u,hz,hs⟩:=lM (P:=P) (w:=w) hu hu2 (Ad hx h) hv
     exact ⟨u,ED rfl hz,hs⟩
 case build t ps=>
  simp only [AU,AF] at hc
  obtain ⟨z,hz,pl,hpl,cps,hcps,hh⟩:=hc
  cases hh
  simp only [pv,AM] at hv
  obtain ⟨cs,hcs,rfl⟩:=hv
  exact .same fun base g lam Pr N a w0 w h=>by
   obtain ⟨u,hu,hs⟩:=qP hz hpl hcps h hcs
   exact ⟨u,ED rfl hu,SV.En hs⟩
 case buildSlice t len ps=>
  simp only [AU,AF] at hc
  obtain ⟨e,he,z,hz,n,hn,hh⟩:=hc
  split at hh
  · rename_i hcond
    simp only [AF] at hh
    obtain ⟨cps,hcps,hh⟩:=hh
    have hv2:pv F L σ (.bsl n len (Ai len z).flatten cps)=some v:=by
     cases sh
     · cases hh;exact hv
     · cases hh;simp [pv] at hv
    simp only [pv,AM,AF] at hv2
    obtain ⟨l,⟨cs,hcs,hl⟩,rfl⟩:=hv2
    intro base g lam Pr N a w0 w h
    obtain ⟨x,g',w',hr,h1,h2,h3,h4⟩:=qQ he hz hn hcond hcps h hcs hl
    exact ⟨x,g',w',ED rfl hr,h1,h2,SV.En h3,h4⟩
  · cases hh
 case makeFunc fn first caps=>
  cases fn<;>simp only [AU,AF] at hc<;>try (cases hc;done)
  rename_i f
  obtain ⟨xf,hxf,xc,hxc,hh⟩:=hc
  cases hh
  simp only [pv] at hv
  split at hv
  · rename_i hn
    cases hv
    simp only [Ce,AR] at hn
    exact .same fun base g lam Pr N a w0 w h=>by
     have h1:=Px h first.toList xf hxf hn.1
     have h2:=Px h caps.toList xc hxc hn.2
     refine ⟨.func (.func f) (first.map a.eval) (caps.map a.eval),by simp [execOp,Instr.makeFunc],SV.En ?_⟩
     have e1:first.map a.eval=(first.toList.map a.eval).toArray:=Array.ext' (by simp)
     have e2:caps.map a.eval=(caps.toList.map a.eval).toArray:=Array.ext' (by simp)
     rw [e1,e2]
     exact .fn h1.length h2.length h1.idx h2.idx
  · cases hv
 case extract y i=>
  simp only [AM] at hc
  obtain ⟨x,hx,rfl⟩:=hc
  exact .same fun base g lam Pr N a w0 w h=>by
   obtain ⟨u,hz,hs⟩:=q7 (P:=P) (w:=w) (Ad hx h) hv
   exact ⟨u,ED rfl hz,SV.En hs⟩
 case nilCheck y=>
  simp only [AM] at hc
  obtain ⟨x,hx,rfl⟩:=hc
  simp only [pv] at hv
  exact .same fun base g lam Pr N a w0 w h=>by
   have hs:=Ad hx h
   have key:∀p:Addr,a.eval y= .pointer (some p)→(execOp a.eval ⟨dst,.nilCheck y,ty,pos,after,guard⟩).run P w= .ok (.value (.pointer (some p))) w:=by
    intro p hp
    simp only [execOp,hp];rfl
   generalize a.eval y=vy at hs key
   cases hxv:xv F x<;>rw [hxv] at hv hs<;>simp only [vR,AQ] at hv<;>try (cases hv;done)
   · rename_i dx
     cases dx<;>simp only [AQ] at hv<;>try (cases hv;done)
     subst hv;cases hs with|d hs=>cases hs with|ptr hi hr=>exact ⟨_,key _ rfl,.d (.ptr hi hr)⟩
   · subst hv;obtain ⟨b,hb,rfl⟩:=hs;exact ⟨_,key _ rfl,b,hb,rfl⟩
   · subst hv;cases hs with|gp hm=>exact ⟨_,key _ rfl,.gp hm⟩
   · subst hv;cases hs with|ep hi hr=>exact ⟨_,key _ rfl,.ep hi hr⟩
 case makeSlice t l c=>
  simp only [AU,AF] at hc
  obtain ⟨e,he,i,hi,z,hz,hh⟩:=hc
  split at hh
  · simp only [AF] at hh
    obtain ⟨xl,_,xc,_,hh⟩:=hh
    cases hh
    simp [pv] at hv
  · cases hh
 case call c=>exact lD hc hv
 all_goals (cases hc;done)
end Go.Ab
