/- Regions that draw their order: one order, chosen well, stands for all. Regions that draw their order, continued: whatever order the tape picks. Conditions: none. -/
import Derived.Test.YtlckhmkeihbhmaaGreatXAb10
set_option linter.unusedSimpArgs false
set_option linter.unusedVariables false
set_option maxRecDepth 4000
set_option maxHeartbeats 8000000
open Option renaming map_some→Bs,bind_eq_bind→AN,bind_eq_some_iff→AB,getD_some→NK
open List renaming flatMap_cons→Lb,mem_append→A7,range→An,mem_filter→On,getElem?_map→Ag,getElem?_cons_succ→TT,mem_range→Ci,contains_iff_mem→A8,all_eq_true→Ah,mem_zipIdx_iff_getElem?→Oo,mem_singleton→Bd
open Bool renaming false_eq_true→AY,or_eq_true→DU,and_eq_true→AP,not_eq_true'→B1
open Array renaming getD_eq_getD_getElem?→C9,getElem?_eq_getElem→J7,replicate→EG
open Nat renaming lt_or_ge→Bt,le_refl→A0
open Ne renaming symm→CL
open Option.some renaming injEq→AJ
namespace Go.Ab
open Go.RowKit
variable {P:Program} {base N:Nat} {g g':Gh} {Pr:Nat→Prop} {σ σ':AF} {w0 w w':World} {lam:Nat→Option Nat} {F:Fm} {L:Lm} {a:Act}
def isV:O→Bool
 | .box _ _| .al _ _| .st _ _ _| .msl _ _ _ _ _ _| .app _ _ _ _ _| .call _ _| .FL _ _| .Uz _ _ _ _ _| .trn _ _| .QY _ _ _ _ _=>false
 | .ex k _=>k.pure
 |_=>true
def WB:O→Bool
 | .ld _ _| .S1 _ _| .ldl _ _=>false
 |o=>isV o
def fQ:O→Bool
 | .ldl _ _=>true
 |o=>WB o
def Wq:O→Bool
 | .st _ _ _=>false
 | .box _ sh| .al _ sh=>sh
 |_=>true
def S3:O→Bool
 | .box _ sh| .al _ sh=>sh
 |_=>true
def MP:X→List Nat
 | .t n=>[n]
 | .c _=>[]
def YL (l:List X):List Nat:=l.flatMap MP
def WJ:Option X→List Nat
 |none=>[]
 |some x=>MP x
def Hf:O→List Nat
 | .mv x| .fld x _| .ld x _| .len x| .Gn x| .un _ x| .conv _ x| .ext x _| .nck x| .box x _| .ldl x _| .fd x _ _| .Xm _ x| .aU x=>MP x
 | .ssl x lo hi=>MP x++WJ lo++WJ hi
 | .sls x lo hi mx _=>MP x++WJ lo++WJ hi++WJ mx
 | .mm3 _ x y z=>MP x++MP y++MP z
 | .YJ _ _ x y=>MP x++MP y
 | .pick x y z=>MP x++MP y++MP z
 | .ix x y _| .L7 x y| .bin _ x y| .aS _ x y| .mm _ x y| .st x y _| .msl _ _ _ _ x y| .app _ _ _ x y| .Uz _ _ _ x y| .trn x y=>MP x++MP y
 | .bld _ ps| .bsl _ _ _ ps| .QY _ _ _ _ ps=>ps.flatMap fun p=>MP p.2.2
 | .mkf _ x y=>YL x++YL y
 | .al _ _=>[]
 | .call _ args| .S1 _ args| .ex _ args=>YL args
 | .FL x args=>MP x++YL args
def Q.K0 (q:Q):List Nat:=Hf q.o++(match q.grd with|some (s,_)=>[s]|none=>[])
theorem BB {F F':Fm} {x:X} (h:∀s∈MP x,F s=F' s):xv F x=xv F' x:=by
 cases x with
 |t n=>exact h n (by simp [MP])
 |c v=>rfl
theorem MT {F F':Fm} {x:Option X} (h:∀s∈WJ x,F s=F' s):x.map (xv F)=x.map (xv F'):=by
 cases x with
 |none=>rfl
 |some x=>simp only [Bs];rw [BB h]
theorem F8 {F F':Fm} {l:List X} (h:∀s∈YL l,F s=F' s):xvs F l=xvs F' l:=by
 unfold xvs
 refine List.map_congr_left fun x hx=>BB fun s hs=>h s ?_
 exact List.mem_flatMap.2 ⟨x,hx,hs⟩
theorem LA {F F':Fm}:∀(ps:List (Nat×Nat×X)) (z:List AV),(∀s∈ps.flatMap (fun p=>MP p.2.2),F s=F' s)→HL z F ps=HL z F' ps
 |[],z,_=>rfl
 |(off,n,x)::ps,z,h=>by
  have e:xv F x=xv F' x:=BB fun s hs=>h s (by simp [hs])
  simp only [HL,e]
  rw [LA ps _ (fun s hs=>h s (by simp only [Lb,A7];exact .inr hs))]
theorem gM {F F':Fm} {o:O} (h:∀s∈Hf o,F s=F' s):pv F L σ o=pv F' L σ o:=by
 cases o<;>simp only [Hf,A7] at h<;>simp only [pv]<;>first
  |rw [BB h]
  |rw [BB (fun s hs=>h s (.inl (.inl (.inl hs)))),MT (fun s hs=>h s (.inl (.inl (.inr hs)))),MT (fun s hs=>h s (.inl (.inr hs))),MT (fun s hs=>h s (.inr hs))]
  |rw [BB (fun s hs=>h s (.inl (.inl hs))),MT (fun s hs=>h s (.inl (.inr hs))),MT (fun s hs=>h s (.inr hs))]
  |rw [BB (fun s hs=>h s (.inl hs)),BB (fun s hs=>h s (.inr hs))]
  |rw [BB (fun s hs=>h s (.inl (.inl hs))),BB (fun s hs=>h s (.inl (.inr hs))),BB (fun s hs=>h s (.inr hs))]
  |rw [LA _ _ h]
  |rw [F8 h]
  |rw [F8 (fun s hs=>h s (.inl hs)),F8 (fun s hs=>h s (.inr hs))]
  |rfl
theorem jT {o:O} (h:WB o=true) (L':Lm) (σ':AF):pv F L σ o=pv F L' σ' o:=by
 cases o<;>first|rfl|(cases h;done)
theorem l8 {o:O} (h:fQ o=true) (σ':AF):pv F L σ o=pv F L σ' o:=by
 cases o<;>first|rfl|(cases h;done)
def Yv (P:Program) (F:Fm) (L:Lm) (σ:AF) (v:AV):O→Prop
 | .S1 f args=>(xvs F args).all AV.BY=true∧v.BY=true∧AL P f (xvs F args) σ (fun v' σ'=>v'=v∧σ'=σ)
 |o=>pv F L σ o=some v
theorem TZ {F F':Fm} {v:AV} {o:O} (h:∀s∈Hf o,F s=F' s) (hy:Yv P F L σ v o):Yv P F' L σ v o:=by
 cases o<;>first
  |(simp only [Yv] at hy ⊢;rw [← gM h];exact hy)
  |(simp only [Yv,Hf] at *;rw [← F8 h];exact hy)
theorem iB {v:AV} {o:O} (h:WB o=true) (L':Lm) (σ':AF) (hy:Yv P F L σ v o):Yv P F L' σ' v o:=by
 cases o<;>first|(cases h;done)|(simp only [Yv] at hy ⊢;rw [← jT h L' σ'];exact hy)
theorem lE {v:AV} {o:O} (h:fQ o=true) (σ':AF) (hy:Yv P F L σ v o):Yv P F L σ' v o:=by
 cases o<;>first|(cases h;done)|(simp only [Yv] at hy ⊢;rw [← l8 h σ'];exact hy)
theorem aJ {o:O} (h:isV o=true) (dst:Option Nat) (K:CV):XO P dst K F L σ o↔∃v,Yv P F L σ v o∧K (Ar dst v F) L σ:=by
 cases o<;>try (cases h;done)
 case S1 f args=>
  simp only [XO,TX,Yv]
  constructor
  · rintro ⟨h1,v,h2,h3⟩;exact ⟨v,⟨h1,h2⟩,h3⟩
  · rintro ⟨v,⟨h1,h2⟩,h3⟩;exact ⟨h1,v,h2,h3⟩
 case ex k xs=>
  have h:k.pure=true:=h
  simp only [XO,XEx,h,if_true,Yv,pv]
  constructor
  · intro hx
    obtain ⟨v,hv,hk⟩:=TQ hx
    exact ⟨v,hv,hk⟩
  · rintro ⟨v,hv,hk⟩
    rw [hv];exact hk
 all_goals
  simp only [XO,Yv]
  constructor
  · intro hx
    unfold XPv at hx
    split at hx
    · rename_i v hv;exact ⟨v,hv,hx⟩
    · exact hx.elim
  · rintro ⟨v,hv,hk⟩
    rw [hv];exact hk
def YQ (P:Program) (q:Q) (F:Fm) (L:Lm) (σ:AF) (v:AV):Prop:=XG (gd F q.grd) (Yv P F L σ v q.o) (v= .tup [])
theorem Tw {F F':Fm} {q:Q} (h:∀s∈q.K0,F s=F' s):gd F q.grd=gd F' q.grd:=by
 cases hg:q.grd with
 |none=>rfl
 |some gw=>
  obtain ⟨s,want⟩:=gw
  simp only [gd];rw [h s (by simp [Q.K0,hg])]
theorem TY {F F':Fm} {q:Q} {v:AV} (h:∀s∈q.K0,F s=F' s) (hy:YQ P q F L σ v):YQ P q F' L σ v:=by
 have h1:∀s∈Hf q.o,F s=F' s:=fun s hs=>h s (by simp [Q.K0,hs])
 unfold YQ at hy ⊢
 rw [← Tw h]
 cases hc:gd F q.grd with
 |none=>rw [hc] at hy;exact hy.elim
 |some b=>rw [hc] at hy;cases b<;>first|exact hy|exact TZ h1 hy
theorem iA {q:Q} {v:AV} (h:WB q.o=true) (L':Lm) (σ':AF) (hy:YQ P q F L σ v):YQ P q F L' σ' v:=by
 unfold YQ at hy ⊢
 cases hc:gd F q.grd with
 |none=>rw [hc] at hy;exact hy.elim
 |some b=>rw [hc] at hy;cases b<;>first|exact hy|exact iB h L' σ' hy
theorem lD {q:Q} {v:AV} (h:fQ q.o=true) (σ':AF) (hy:YQ P q F L σ v):YQ P q F L σ' v:=by
 unfold YQ at hy ⊢
 cases hc:gd F q.grd with
 |none=>rw [hc] at hy;exact hy.elim
 |some b=>rw [hc] at hy;cases b<;>first|exact hy|exact lE h σ' hy
theorem dZ {q:Q} (h:isV q.o=true) (K:CV):XQ P q K F L σ↔∃v,YQ P q F L σ v∧K (Ar q.dst v F) L σ:=by
 unfold XQ YQ
 cases hc:gd F q.grd with
 |none=>exact ⟨fun hk=>hk.elim,fun ⟨_,hv,_⟩=>hv.elim⟩
 |some b=>
  cases b
  · exact ⟨fun hk=>⟨_,rfl,hk⟩,fun ⟨v,hv,hk⟩=>by have hv:v= .tup []:=hv;subst hv;exact hk⟩
  · exact aJ h q.dst K
theorem hZ {o:O} {dst:Option Nat} {K K':CV} (htm:S3 o=true) (hk:∀u L' σ',K (Ar dst u F) L' σ'→K' (Ar dst u F) L' σ') (hx:XO P dst K F L σ o):XO P dst K' F L σ o:=by
 have hF:dst=none→∀L' σ',K F L' σ'→K' F L' σ':=fun hd L' σ' h=>by have:=hk .undef L' σ';rw [hd] at this;exact this h
 by_cases hV:isV o=true
 · rw [aJ hV] at hx ⊢
   obtain ⟨v,h1,h2⟩:=hx
   exact ⟨v,h1,hk _ _ _ h2⟩
 · cases o<;>simp only [isV,not_true_eq_false] at hV
   case box x sh=>
    simp only [XO,Oq] at hx ⊢
    refine ⟨hx.1,?_⟩
    have hx:=hx.2
    cases dst with
    |none=>exact hx.elim
    |some d=>
     cases sh with
     |true=>exact fun i hi=>hk (.gp i 0) _ _ (hx i hi)
     |false=>cases htm
   case al z sh=>
    simp only [XO,Oq] at hx ⊢
    refine ⟨hx.1,?_⟩
    have hx:=hx.2
    cases dst with
    |none=>exact hx.elim
    |some d=>
     cases sh with
     |true=>exact fun i hi=>hk (.gp i 0) _ _ (hx i hi)
     |false=>cases htm
   case st x v n=>
    simp only [XO,XSt] at hx ⊢
    obtain ⟨h1,h2,h3,h4⟩:=hx
    refine ⟨h1,h2,h3,?_⟩
    split at h4
    · exact hF h1 _ _ h4
    · exact h4.elim
   case msl e s b z l c=>
    obtain ⟨k,k',n,h1,h2,h3,h4,h5,h6⟩:=hx
    exact ⟨k,k',n,h1,h2,h3,h4,h5,fun i hi=>hk _ _ _ (h6 i hi)⟩
   case Uz e s b x y=>
    obtain ⟨n,cs,σ1,srows,h1,h2,h3,h4,h5,h6,h7⟩:=hx
    exact ⟨n,cs,σ1,srows,h1,h2,h3,fun e=>hk _ _ _ (h4 e),h5,h6,fun e t ht=>hk _ _ _ (h7 e t ht)⟩
   case trn x y=>
    obtain ⟨k,s,e,cs,σ1,h1,h2⟩:=hx
    exact ⟨k,s,e,cs,σ1,h1,fun t ht=>hk _ _ _ (h2 t ht)⟩
   case QY e s l z ps=>
    obtain ⟨cs,h1,h2⟩:=hx
    exact ⟨cs,h1,fun t ht=>hk _ _ _ (h2 t ht)⟩
   case app e s b x y=>
    rcases hx with ⟨rows,σ1,srows,h1,h2,h3,h4,h5,h6⟩|⟨rows,srows,h1,h2,h3,h4,h5,h6,h7⟩
    · exact .inl ⟨rows,σ1,srows,h1,h2,h3,h4,h5,fun t ht=>hk _ _ _ (h6 t ht)⟩
    · exact .inr ⟨rows,srows,h1,h2,h3,h4,h5,h6,hk _ _ _ h7⟩
   case call f args=>
    obtain ⟨h1,R,h2,h3⟩:=hx
    exact ⟨h1,R,h2,fun v σ' hv=>hk _ _ _ (h3 v σ' hv)⟩
   case FL x args=>
    obtain ⟨f,first,caps,h0,hb,h1,R,h2,h3⟩:=hx
    exact ⟨f,first,caps,h0,hb,h1,R,h2,fun v σ' hv=>hk _ _ _ (h3 v σ' hv)⟩
   case ex k xs=>
    simp only [XO,XEx,hV,AY,if_false] at hx ⊢
    exact ⟨hx.1,hx.2.mono fun v σ' _ hv=>hk _ _ _ hv⟩
theorem Zn {q:Q} {K K':CV} (htm:S3 q.o=true) (hk:∀u L' σ',K (Ar q.dst u F) L' σ'→K' (Ar q.dst u F) L' σ') (hx:XQ P q K F L σ):XQ P q K' F L σ:=by
 unfold XQ at hx ⊢
 cases hc:gd F q.grd with
 |none=>rw [hc] at hx;exact hx.elim
 |some b=>rw [hc] at hx;cases b<;>first|exact hk _ _ _ hx|exact hZ htm hk hx
theorem dY {o:O} {dst:Option Nat} {K K':CV} (htm:Wq o=true) (hk:∀u σ',K (Ar dst u F) L σ'→K' (Ar dst u F) L σ') (hx:XO P dst K F L σ o):XO P dst K' F L σ o:=by
 by_cases hV:isV o=true
 · rw [aJ hV] at hx ⊢
   obtain ⟨v,h1,h2⟩:=hx
   exact ⟨v,h1,hk _ _ h2⟩
 · cases o<;>simp only [isV,not_true_eq_false] at hV
   case box x sh=>
    simp only [XO,Oq] at hx ⊢
    refine ⟨hx.1,?_⟩
    have hx:=hx.2
    cases dst with
    |none=>exact hx.elim
    |some d=>
     cases sh with
     |true=>exact fun i hi=>hk (.gp i 0) _ (hx i hi)
     |false=>cases htm
   case al z sh=>
    simp only [XO,Oq] at hx ⊢
    refine ⟨hx.1,?_⟩
    have hx:=hx.2
    cases dst with
    |none=>exact hx.elim
    |some d=>
     cases sh with
     |true=>exact fun i hi=>hk (.gp i 0) _ (hx i hi)
     |false=>cases htm
   case st x v n=>cases htm
   case msl e s b z l c=>
    obtain ⟨k,k',n,h1,h2,h3,h4,h5,h6⟩:=hx
    exact ⟨k,k',n,h1,h2,h3,h4,h5,fun i hi=>hk _ _ (h6 i hi)⟩
   case Uz e s b x y=>
    obtain ⟨n,cs,σ1,srows,h1,h2,h3,h4,h5,h6,h7⟩:=hx
    exact ⟨n,cs,σ1,srows,h1,h2,h3,fun e=>hk _ _ (h4 e),h5,h6,fun e t ht=>hk _ _ (h7 e t ht)⟩
   case trn x y=>
    obtain ⟨k,s,e,cs,σ1,h1,h2⟩:=hx
    exact ⟨k,s,e,cs,σ1,h1,fun t ht=>hk _ _ (h2 t ht)⟩
   case QY e s l z ps=>
    obtain ⟨cs,h1,h2⟩:=hx
    exact ⟨cs,h1,fun t ht=>hk _ _ (h2 t ht)⟩
   case app e s b x y=>
    rcases hx with ⟨rows,σ1,srows,h1,h2,h3,h4,h5,h6⟩|⟨rows,srows,h1,h2,h3,h4,h5,h6,h7⟩
    · exact .inl ⟨rows,σ1,srows,h1,h2,h3,h4,h5,fun t ht=>hk _ _ (h6 t ht)⟩
    · exact .inr ⟨rows,srows,h1,h2,h3,h4,h5,h6,hk _ _ h7⟩
   case call f args=>
    obtain ⟨h1,R,h2,h3⟩:=hx
    exact ⟨h1,R,h2,fun v σ' hv=>hk _ _ (h3 v σ' hv)⟩
   case FL x args=>
    obtain ⟨f,first,caps,h0,hb,h1,R,h2,h3⟩:=hx
    exact ⟨f,first,caps,h0,hb,h1,R,h2,fun v σ' hv=>hk _ _ (h3 v σ' hv)⟩
   case ex k xs=>
    simp only [XO,XEx,hV,AY,if_false] at hx ⊢
    exact ⟨hx.1,hx.2.mono fun v σ' _ hv=>hk _ _ hv⟩
theorem eA {q:Q} {K K':CV} (htm:Wq q.o=true) (hk:∀u σ',K (Ar q.dst u F) L σ'→K' (Ar q.dst u F) L σ') (hx:XQ P q K F L σ):XQ P q K' F L σ:=by
 unfold XQ at hx ⊢
 cases hc:gd F q.grd with
 |none=>rw [hc] at hx;exact hx.elim
 |some b=>rw [hc] at hx;cases b<;>first|exact hk _ _ hx|exact dY htm hk hx
theorem Ru {d e:Option Nat} (h:∀k,d=some k→e≠some k) (u v:AV) (F:Fm):Ar d u (Ar e v F)=Ar e v (Ar d u F):=by
 cases d with
 |none=>rfl
 |some d=>
  cases e with
  |none=>rfl
  |some e=>
   have hne:d≠e:=fun he=>h d rfl (he ▸ rfl)
   funext s
   simp only [Ar,put]
   by_cases h1:s=d<;>by_cases h2:s=e<;>simp [h1,h2]
   · omega
   · intro h3;exact absurd h3 hne
   · intro h3;exact absurd h3.symm hne
theorem Wp {d:Option Nat} {s:Nat} (h:d≠some s) (v:AV) (F:Fm):Ar d v F s=F s:=by
 cases d with
 |none=>rfl
 |some d=>simp only [Ar,put];rw [if_neg];intro e;exact h (by rw [e])
theorem k7 {o:O} {dst d:Option Nat} {v:AV} {K:CV} (ht:S3 o=true) (hl:∀s∈Hf o,d≠some s) (hd:∀k,dst=some k→d≠some k)
 (hx:XO P dst K (Ar d v F) L σ o):XO P dst (fun F L σ=>K (Ar d v F) L σ) F L σ o:=by
 have hc:∀u,Ar dst u (Ar d v F)=Ar d v (Ar dst u F):=fun u=>Ru hd u v F
 have hF:∀s∈Hf o,Ar d v F s=F s:=fun s hs=>Wp (hl s hs) v F
 by_cases hV:isV o=true
 · rw [aJ hV] at hx ⊢
   obtain ⟨u,h1,h2⟩:=hx
   refine ⟨u,TZ hF h1,?_⟩
   show K (Ar d v (Ar dst u F)) L σ
   rw [← hc u];exact h2
 · cases o<;>simp only [isV,not_true_eq_false] at hV<;>simp only [Hf,A7] at hF
   case box x sh=>
    cases sh<;>simp only [S3] at ht
    · cases ht
    simp only [XO,Oq] at hx ⊢
    rw [← BB hF]
    refine ⟨hx.1,?_⟩
    have hx:=hx.2
    cases dst with
    |none=>exact hx.elim
    |some e=>exact fun i hi=>(by show K (Ar d v (Ar (some e) (.gp i 0) F)) _ _;rw [← hc (.gp i 0)];exact hx i hi)
   case al z sh=>
    cases sh<;>simp only [S3] at ht
    · cases ht
    simp only [XO,Oq] at hx ⊢
    refine ⟨hx.1,?_⟩
    have hx:=hx.2
    cases dst with
    |none=>exact hx.elim
    |some e=>exact fun i hi=>(by show K (Ar d v (Ar (some e) (.gp i 0) F)) _ _;rw [← hc (.gp i 0)];exact hx i hi)
   case st x y n=>
    simp only [XO,XSt] at hx ⊢
    rw [← BB (fun s hs=>hF s (.inl hs)),← BB (fun s hs=>hF s (.inr hs))]
    obtain ⟨h1,h2,h3,h4⟩:=hx
    refine ⟨h1,h2,h3,?_⟩
    cases he:stA L σ (xv (Ar d v F) y).cells (xv (Ar d v F) x) with
    |none=>rw [he] at h4;exact h4.elim
    |some r=>obtain ⟨L',σ'⟩:=r;rw [he] at h4;exact h4
   case Uz e s b x y=>
    obtain ⟨n,cs,σ1,srows,h1,h2,h3,h4,h5,h6,h7⟩:=hx
    refine ⟨n,cs,σ1,srows,by rw [← BB (fun s hs=>hF s (.inl hs))];exact h1,by rw [← BB (fun s hs=>hF s (.inr hs))];exact h2,h3,fun e=>?_,h5,h6,fun e t ht=>?_⟩
    · show K (Ar d v (Ar dst _ F)) _ _
      rw [← hc,← BB (fun s hs=>hF s (.inl hs))];exact h4 e
    · show K (Ar d v (Ar dst _ F)) _ _
      rw [← hc];exact h7 e t ht
   case trn x y=>
    obtain ⟨k,s,e,cs,σ1,h1,h2⟩:=hx
    refine ⟨k,s,e,cs,σ1,by rw [← BB (fun s hs=>hF s (.inl hs)),← BB (fun s hs=>hF s (.inr hs))];exact h1,fun t ht=>?_⟩
    show K (Ar d v (Ar dst _ F)) _ _
    rw [← hc];exact h2 t ht
   case QY e s l z ps=>
    obtain ⟨cs,h1,h2⟩:=hx
    refine ⟨cs,by rw [← LA _ _ hF];exact h1,fun t ht=>?_⟩
    show K (Ar d v (Ar dst _ F)) _ _
    rw [← hc];exact h2 t ht
   case msl e s b z l c=>
    obtain ⟨k,k',n,h1,h2,h3,h4,h5,h6⟩:=hx
    refine ⟨k,k',n,by rw [← BB (fun s hs=>hF s (.inl hs))];exact h1,by rw [← BB (fun s hs=>hF s (.inr hs))];exact h2,h3,h4,h5,fun i hi=>?_⟩
    show K (Ar d v (Ar dst _ F)) _ _
    rw [← hc];exact h6 i hi
   case app e s b x y=>
    rcases hx with ⟨rows,σ1,srows,h1,h2,h3,h4,h5,h6⟩|⟨rows,srows,h1,h2,h3,h4,h5,h6,h7⟩
    · refine .inl ⟨rows,σ1,srows,by rw [← BB (fun s hs=>hF s (.inl hs))];exact h1,by rw [← BB (fun s hs=>hF s (.inr hs))];exact h2,h3,h4,h5,fun t ht=>?_⟩
      show K (Ar d v (Ar dst _ F)) _ _
      rw [← hc];exact h6 t ht
    · refine .inr ⟨rows,srows,by rw [← BB (fun s hs=>hF s (.inl hs))];exact h1,by rw [← BB (fun s hs=>hF s (.inr hs))];exact h2,h3,h4,h5,h6,?_⟩
      show K (Ar d v (Ar dst _ F)) _ _
      rw [← hc];exact h7
   case call f args=>
    obtain ⟨h1,R,h2,h3⟩:=hx
    rw [F8 hF] at h1 h2
    refine ⟨h1,R,h2,fun u σ' hv=>?_⟩
    show K (Ar d v (Ar dst _ F)) _ _
    rw [← hc];exact h3 u σ' hv
   case FL x args=>
    obtain ⟨f,first,caps,h0,hb,h1,R,h2,h3⟩:=hx
    rw [F8 (fun s hs=>hF s (.inr hs))] at h1 h2
    refine ⟨f,first,caps,by rw [← BB (fun s hs=>hF s (.inl hs))];exact h0,hb,h1,R,h2,fun u σ' hv=>?_⟩
    show K (Ar d v (Ar dst _ F)) _ _
    rw [← hc];exact h3 u σ' hv
   case ex k xs=>
    simp only [XO,XEx,hV,AY,if_false] at hx ⊢
    rw [F8 hF] at hx
    refine ⟨hx.1,hx.2.mono fun u σ' _ hv=>?_⟩
    show K (Ar d v (Ar dst _ F)) _ _
    rw [← hc];exact hv
theorem k9 {q:Q} {d:Option Nat} {v:AV} {K:CV} (ht:S3 q.o=true) (hl:∀s∈q.K0,d≠some s) (hd:∀k,q.dst=some k→d≠some k)
 (hx:XQ P q K (Ar d v F) L σ):XQ P q (fun F L σ=>K (Ar d v F) L σ) F L σ:=by
 have h1:∀s∈Hf q.o,d≠some s:=fun s hs=>hl s (by simp [Q.K0,hs])
 unfold XQ at hx ⊢
 rw [Tw (F:=Ar d v F) (F':=F) (fun s hs=>Wp (hl s hs) v F)] at hx
 cases hc:gd F q.grd with
 |none=>rw [hc] at hx;exact hx.elim
 |some b=>
  rw [hc] at hx
  cases b
  · have hx:K (Ar q.dst (.tup []) (Ar d v F)) L σ:=hx
    show K (Ar d v (Ar q.dst (.tup []) F)) L σ
    rw [← Ru hd];exact hx
  · exact k7 ht h1 hd hx
end Go.Ab
namespace Go.Ab
open Go.RowKit
variable {P:Program} {base N:Nat} {g g':Gh} {Pr:Nat→Prop} {σ σ':AF} {w0 w w':World} {lam:Nat→Option Nat} {F:Fm} {L:Lm} {a:Act}
def RP (P:Program) (ops:Array Oper) (qs:List Q) (K:CV):Nat→Array Bool→CV
 |0,listed,F,L,σ=>Region.ready .any ops listed=[]∧K F L σ
 |fuel+1,listed,F,L,σ=>(Region.ready .any ops listed=[]→K F L σ)∧
  ∀i∈Region.ready .any ops listed,∃q,qs[i]?=some q∧XQ P q (RP P ops qs K fuel (listed.setIfInBounds i true)) F L σ
def toP (pf:List FuncId) (q:Q):Q:=
 match q.o with
 | .call f args=>if pf.contains f then { q with o:= .S1 f args} else q
 |_=>q
theorem dM {pf:List FuncId} {q:Q} {K:CV} (h:XQ P (toP pf q) K F L σ):XQ P q K F L σ:=by
 obtain ⟨dst,o,grd⟩:=q
 cases o<;>try exact h
 rename_i f args
 simp only [toP] at h
 split at h
 · unfold XQ at h ⊢
   simp only at h ⊢
   cases hc:gd F grd with
   |none=>rw [hc] at h;exact h.elim
   |some b=>
    rw [hc] at h
    cases b
    · exact h
    · obtain ⟨h1,v,⟨_,h2⟩,h3⟩:=h
      exact ⟨h1,_,h2,fun v' σ' ⟨e1,e2⟩=>by subst e1;subst e2;exact h3⟩
 · exact h
theorem Vm {ops:Array Oper} {esc:List Nat}:∀(l:List Nat) (qs:List Q),KO P N esc ops l=some qs→∀(k i:Nat),l[k]?=some i→∃o q,ops[i]?=some o∧qs[k]?=some q∧Zq P N esc ops o=some q
 |[],_,_,k,i,hk=>by simp at hk
 |j::l,qs,h,k,i,hk=>by
  simp only [KO,AN,AB] at h
  obtain ⟨o,ho,q,hq,qs',hqs,he⟩:=h
  cases he
  cases k with
  |zero=>simp at hk;subst hk;exact ⟨o,q,ho,rfl,hq⟩
  |succ k=>simpa using Vm l qs' hqs k i (by simpa using hk)
theorem QO {ops:Array Oper} {esc:List Nat} {pf:List FuncId} {qs:List Q} (hc:KO P N esc ops (An ops.size)=some qs) (K:CV) {R:Exit→Act→World→Prop}:
 ∀(fuel:Nat) (listed:Array Bool) (base:Nat) (g:Gh) (lam:Nat→Option Nat) (Pr:Nat→Prop) (F:Fm) (L:Lm) (σ:AF) (a:Act) (w0 w:World),
  RP P ops (qs.map (toP pf)) K fuel listed F L σ→B9 base g lam Pr N F L σ a w0 w→(∀a' w',E1 base Pr N w0 g w K a' w'→R .normal a' w')→wpAny P .any ops R fuel listed a w
 |0,listed,base,g,lam,Pr,F,L,σ,a,w0,w,hx,h,hR=>⟨hx.1,hR _ _ ⟨g,lam,F,L,σ,Gh.le_refl g,KP.refl Pr w,h,hx.2⟩⟩
 |fuel+1,listed,base,g,lam,Pr,F,L,σ,a,w0,w,hx,h,hR=>by
  refine ⟨fun he=>hR _ _ ⟨g,lam,F,L,σ,Gh.le_refl g,KP.refl Pr w,h,hx.1 he⟩,fun i hi=>?_⟩
  obtain ⟨q',hq',hxq⟩:=hx.2 i hi
  have hlt:i < ops.size:=by
   have:=(On.1 hi).1
   simpa using this
  obtain ⟨o,q,ho,hq,hcq⟩:=Vm (An ops.size) qs hc i i (by simp [hlt])
  rw [Ag,hq] at hq'
  cases hq'
  refine wpOp_mono ?_ (YS ho hcq (dM hxq) h)
  rintro a' w' ⟨g',lam',F',L',σ',h1,h2,h3,h4⟩
  exact QO hc K fuel _ base g' lam' Pr F' L' σ' a' w0 w' h4 h3 (fun a2 w2 hA=>hR _ _ (E1.trans h1 h2 hA))
inductive Anc (ops:Array Oper):Nat→Nat→Prop
 |one {j:Nat} {o:Oper} {e:Edge} (ho:ops[j]?=some o) (he:e∈o.after) (hb:Region.binds .any e=true):Anc ops j e.on
 |step {j i:Nat} {o:Oper} {e:Edge} (ho:ops[j]?=some o) (he:e∈o.after) (hb:Region.binds .any e=true) (h:Anc ops e.on i):Anc ops j i
def Wk (acc:Array Nat) (l:List Edge):Nat:=l.foldl (fun s e=>if Region.binds .any e then s|||2 ^ e.on|||acc.getD e.on 0 else s) 0
def RR:List Oper→Array Nat→Array Nat
 |[],acc=>acc
 |o::l,acc=>RR l (acc.push (Wk acc o.after.toList))
def HZ (ops:Array Oper) (listed:Array Bool):Prop:=
 ∀j o,ops[j]?=some o→listed.getD j false=true→∀e∈o.after,Region.binds .any e=true→listed.getD e.on false=true
theorem T2 {ops:Array Oper} {listed:Array Bool} (hc:HZ ops listed) {j i:Nat} (h:Anc ops j i):(∀o,ops[j]?=some o→∀e∈o.after,Region.binds .any e=true→listed.getD e.on false=true)→listed.getD i false=true:=by
 induction h with
 |one ho he hb=>exact fun hj=>hj _ ho _ he hb
 |step ho he hb _ ih=>exact fun hj=>ih fun o' ho' e' he' hb'=>hc _ o' ho' (hj _ ho _ he hb) e' he' hb'
theorem UI {ops:Array Oper} {acc:Array Nat} (hacc:∀k i,(acc.getD k 0).testBit i=true→Anc ops k i) {j:Nat} {o:Oper} (ho:ops[j]?=some o):
 ∀(l:List Edge) (s:Nat),(∀e∈l,e∈o.after)→(∀i,s.testBit i=true→Anc ops j i)→
  ∀i,(l.foldl (fun s e=>if Region.binds .any e then s|||2 ^ e.on|||acc.getD e.on 0 else s) s).testBit i=true→Anc ops j i
 |[],s,_,hs,i,hi=>hs i hi
 |e::l,s,hl,hs,i,hi=>by
  simp only [List.foldl_cons] at hi
  refine UI hacc ho l _ (fun e he=>hl e (by simp [he])) ?_ i hi
  intro i' hi'
  by_cases hb:Region.binds .any e=true
  · simp only [hb,if_true,Nat.testBit_or,DU] at hi'
    rcases hi' with (h|h)|h
    · exact hs i' h
    · rw [Nat.testBit_two_pow] at h
      have:e.on=i':=by simpa using h
      exact this ▸ .one ho (hl e (by simp)) hb
    · exact .step ho (hl e (by simp)) hb (hacc _ _ h)
  · simp only [hb] at hi'
    exact hs i' hi'
theorem QV {ops:Array Oper}:∀(l:List Oper) (acc:Array Nat),(∀k,l[k]?=ops[acc.size+k]?)→(∀k i,(acc.getD k 0).testBit i=true→Anc ops k i)→
 ∀k i,((RR l acc).getD k 0).testBit i=true→Anc ops k i
 |[],acc,_,h=>h
 |o::l,acc,hl,h=>by
  have ho:ops[acc.size]?=some o:=by simpa using (hl 0).symm
  refine QV l _ (fun k=>?_) (fun k i hi=>?_)
  · have:=hl (k+1)
    simp only [TT] at this
    rw [this,Array.size_push];congr 1;omega
  · by_cases e:k=acc.size
    · subst e
      have:(acc.push (Wk acc o.after.toList)).getD acc.size 0=Wk acc o.after.toList:=by simp
      rw [this] at hi
      exact UI h ho o.after.toList 0 (fun e he=>by simpa using he) (fun i hi=>by simp at hi) i hi
    · have:(acc.push (Wk acc o.after.toList)).getD k 0=acc.getD k 0:=by
       simp only [C9,Array.getElem?_push,e,if_false]
      rw [this] at hi
      exact h k i hi
theorem SC {ops:Array Oper} {j i:Nat} (h:((RR ops.toList #[]).getD j 0).testBit i=true):Anc ops j i:=
 QV ops.toList #[] (fun k=>by simp) (fun k i hi=>by simp at hi) j i h
theorem Ih {ops:Array Oper} {listed:Array Bool} {i:Nat}:i∈Region.ready .any ops listed↔i < ops.size∧listed.getD i true=false∧∃o,ops[i]?=some o∧∀e∈o.after,Region.binds .any e=true→listed.getD e.on false=true:=by
 unfold Region.ready
 simp only [On,Ci,AP,B1]
 constructor
 · rintro ⟨h1,h2,h3⟩
   refine ⟨h1,h2,?_⟩
   cases ho:ops[i]? with
   |none=>simp [ho] at h3
   |some o=>
    refine ⟨o,rfl,fun e he hb=>?_⟩
    simp only [ho,Bs,NK,Array.all_eq_true'] at h3
    have:=h3 e he
    simpa [hb] using this
 · rintro ⟨h1,h2,o,ho,h3⟩
   refine ⟨h1,h2,?_⟩
   simp only [ho,Bs,NK,Array.all_eq_true']
   intro e he
   by_cases hb:Region.binds .any e=true
   · simp [h3 e he hb]
   · simp [hb]
theorem Pb {listed:Array Bool} {i:Nat} (h:i < listed.size) (d:Bool):(listed.setIfInBounds i true).getD i d=true:=by simp [h]
theorem Hc {listed:Array Bool} {i j:Nat} (h:i≠j) (d:Bool):(listed.setIfInBounds i true).getD j d=listed.getD j d:=by
 simp [Array.getElem?_setIfInBounds_ne h]
theorem Rb {listed:Array Bool} {i j:Nat} (h:listed.getD j false=true):(listed.setIfInBounds i true).getD j false=true:=by
 by_cases e:i=j
 · subst e
   have:i < listed.size:=by
    rcases Bt i listed.size with h1|h1
    · exact h1
    · simp [h1] at h
   exact Pb this false
 · rw [Hc e];exact h
theorem HZ.set {ops:Array Oper} {listed:Array Bool} (hc:HZ ops listed) {i:Nat} (hi:i∈Region.ready .any ops listed):HZ ops (listed.setIfInBounds i true):=by
 intro j o ho hj e he hb
 by_cases e':i=j
 · subst e'
   obtain ⟨_,_,o',ho',hall⟩:=Ih.1 hi
   rw [ho] at ho';cases ho'
   exact Rb (hall e he hb)
 · rw [Hc e'] at hj
   exact Rb (hc j o ho hj e he hb)
theorem MG {ops:Array Oper} {listed:Array Bool} {i j:Nat} (hj:j∈Region.ready .any ops listed) (hne:i≠j):j∈Region.ready .any ops (listed.setIfInBounds i true):=by
 obtain ⟨h1,h2,o,ho,h3⟩:=Ih.1 hj
 exact Ih.2 ⟨h1,by rw [Hc hne];exact h2,o,ho,fun e he hb=>Rb (h3 e he hb)⟩
def YX (x y:Q):Bool:=
 (match x.dst with|some d=>!y.K0.contains d&&y.dst != some d|none=>true)&&(match y.dst with|some d=>!x.K0.contains d|none=>true)
theorem XF {x y:Q} (h:YX x y=true):(∀s∈y.K0,x.dst≠some s)∧(∀k,y.dst=some k→x.dst≠some k)∧(∀s∈x.K0,y.dst≠some s):=by
 unfold YX at h
 simp only [AP] at h
 refine ⟨fun s hs he=>?_,fun k hk he=>?_,fun s hs he=>?_⟩
 · rw [he] at h;simp [hs] at h
 · rw [he,hk] at h;simp at h
 · rw [he] at h;simp [hs] at h
def before (tab:Array Nat) (i j:Nat) (qi qj:Q):Bool:=(tab.getD j 0).testBit i||(YX qi qj&&S3 qj.o&&(isV qj.o||WB qi.o||(fQ qi.o&&Wq qj.o)))
theorem Ut {ops:Array Oper} {tab:Array Nat} (htab:∀j i,(tab.getD j 0).testBit i=true→Anc ops j i) {qs:List Q} {K:CV} {i:Nat} {qi:Q} (hi:qs[i]?=some qi) (hV:isV qi.o=true):
 ∀(fuel:Nat) (listed:Array Bool) (F:Fm) (L:Lm) (σ:AF) (v:AV),HZ ops listed→listed.size=ops.size→
  (∀j qj,qs[j]?=some qj→j≠i→listed.getD j true=false→before tab i j qi qj=true)→
  i∈Region.ready .any ops listed→YQ P qi F L σ v→RP P ops qs K fuel (listed.setIfInBounds i true) (Ar qi.dst v F) L σ→RP P ops qs K (fuel+1) listed F L σ:=by
 intro fuel
 induction fuel with
 |zero=>
  intro listed F L σ v hcl hsz hb hr hy H
  refine ⟨fun h=>(by rw [h] at hr;cases hr),fun j hj=>?_⟩
  by_cases hji:i=j
  · subst hji;exact ⟨qi,hi,(dZ hV _).2 ⟨v,hy,H⟩⟩
  · have:=MG hj hji
    rw [H.1] at this;cases this
 |succ fuel ih=>
  intro listed F L σ v hcl hsz hb hr hy H
  refine ⟨fun h=>(by rw [h] at hr;cases hr),fun j hj=>?_⟩
  by_cases hji:i=j
  · subst hji;exact ⟨qi,hi,(dZ hV _).2 ⟨v,hy,H⟩⟩
  · obtain ⟨qj,hqj,hxj⟩:=H.2 j (MG hj hji)
    obtain ⟨hjlt,hjun,oj,hoj,hjall⟩:=Ih.1 hj
    have hbj:=hb j qj hqj (CL hji) hjun
    have hiun:=(Ih.1 hr).2.1
    have hilt:=(Ih.1 hr).1
    unfold before at hbj
    simp only [DU,AP] at hbj
    rcases hbj with hanc|⟨⟨hap,htame⟩,hcls⟩
    · have h1:=T2 hcl (htab j i hanc) (fun o ho=>by rw [hoj] at ho;cases ho;exact hjall)
      rw [C9,J7 (by omega)] at h1 hiun
      simp at h1 hiun
      rw [h1] at hiun;cases hiun
    · obtain ⟨a1,a2,a3⟩:=XF hap
      refine ⟨qj,hqj,?_⟩
      have hxj':=k9 htame a1 a2 hxj
      have hcl':=hcl.set hj
      have hr':i∈Region.ready .any ops (listed.setIfInBounds j true):=MG hr (CL hji)
      have hb':∀k qk,qs[k]?=some qk→k≠i→(listed.setIfInBounds j true).getD k true=false→before tab i k qi qk=true:=fun k qk hk hki hun=>by
       by_cases e:j=k
       · subst e;rw [Pb (by omega)] at hun;cases hun
       · rw [Hc e] at hun;exact hb k qk hk hki hun
      have hcomm:(listed.setIfInBounds i true).setIfInBounds j true=(listed.setIfInBounds j true).setIfInBounds i true:=Array.setIfInBounds_comm _ _ hji
      have hlook:∀u,∀s∈qi.K0,F s=Ar qj.dst u F s:=fun u s hs=>(Wp (a3 s hs) u F).symm
      by_cases hVj:isV qj.o=true
      · rw [dZ hVj] at hxj' ⊢
        obtain ⟨u,hu,hk⟩:=hxj'
        refine ⟨u,hu,ih _ _ _ _ v hcl' (by simpa using hsz) hb' hr' (TY (hlook u) hy) ?_⟩
        rw [← hcomm];exact hk
      · have hcls':WB qi.o=true∨(fQ qi.o=true∧Wq qj.o=true):=by
         rcases hcls with (h1|h1)|h1
         · exact absurd h1 hVj
         · exact .inl h1
         · exact .inr h1
        rcases hcls' with hp|hp
        case inr=>
         refine eA hp.2 (fun u σ' hk=>?_) hxj'
         refine ih _ _ _ _ v hcl' (by simpa using hsz) hb' hr' (lD hp.1 σ' (TY (hlook u) hy)) ?_
         rw [← hcomm];exact hk
        refine Zn htame (fun u L' σ' hk=>?_) hxj'
        refine ih _ _ _ _ v hcl' (by simpa using hsz) hb' hr' (iA hp L' σ' (TY (hlook u) hy)) ?_
        rw [← hcomm];exact hk
def TM (tab:Array Nat) (qs:List Q) (listed:Array Bool) (i:Nat):Bool:=
 match qs[i]? with
 |some qi=>isV qi.o&&(qs.zipIdx.all fun (qj,j)=>j==i||listed.getD j true||before tab i j qi qj)
 |none=>false
def US (ops:Array Oper) (tab:Array Nat) (qs:List Q):List Nat→Array Bool→Bool
 |[],listed=>(Region.ready .any ops listed).isEmpty
 |i::rest,listed=>(Region.ready .any ops listed).contains i&&(TM tab qs listed i||(Region.ready .any ops listed==[i]&&((qs[i]?).map fun q=>S3 q.o).getD false))&&US ops tab qs rest (listed.setIfInBounds i true)
def Vy (qs:List Q) (order:List Nat):List Q:=order.filterMap (qs[·]?)
theorem WO {ops:Array Oper} {tab:Array Nat} (htab:∀j i,(tab.getD j 0).testBit i=true→Anc ops j i) {qs:List Q} {K:CV} (hsz:qs.length=ops.size):∀(order:List Nat) (listed:Array Bool) (F:Fm) (L:Lm) (σ:AF),US ops tab qs order listed=true→HZ ops listed→listed.size=ops.size→
 BR P K (Vy qs order) F L σ→RP P ops qs K order.length listed F L σ
 |[],listed,F,L,σ,hp,_,_,hx=>⟨by simpa [US] using hp,hx⟩
 |i::rest,listed,F,L,σ,hp,hcl,hls,hx=>by
  simp only [US,AP,DU,A8] at hp
  obtain ⟨⟨hr,hok⟩,hrest⟩:=hp
  have hilt:=(Ih.1 hr).1
  have hqi:qs[i]?=some qs[i]:=by simp
  have hpk:Vy qs (i::rest)=qs[i]::Vy qs rest:=by unfold Vy;rw [List.filterMap_cons,hqi]
  rw [hpk] at hx
  have hx:XQ P qs[i] (BR P K (Vy qs rest)) F L σ:=hx
  have ih:=fun F L σ=>WO htab (K:=K) hsz rest (listed.setIfInBounds i true) F L σ hrest (hcl.set hr) (by simpa using hls)
  rcases hok with hok|hok
  · unfold TM at hok
    rw [hqi] at hok
    simp only [AP,Ah] at hok
    obtain ⟨v,hy,hk⟩:=(dZ hok.1 _).1 hx
    refine Ut htab hqi hok.1 rest.length listed F L σ v hcl hls (fun j qj hj hji hun=>?_) hr hy (ih _ _ _ hk)
    have hmem:(qj,j)∈qs.zipIdx:=by
     rw [Oo];exact hj
    have:=hok.2 (qj,j) hmem
    simp only [DU,beq_iff_eq] at this
    rcases this with (h|h)|h
    · exact absurd h hji
    · rw [hun] at h;cases h
    · exact h
  · simp only [AP,beq_iff_eq,hqi,Bs,NK] at hok
    obtain ⟨hok,htm⟩:=hok
    refine ⟨fun h=>(by rw [h] at hr;cases hr),fun j hj=>?_⟩
    rw [hok] at hj
    simp only [Bd] at hj
    subst hj
    exact ⟨_,hqi,Zn htm (fun u L' σ' hk=>ih _ _ _ hk) hx⟩
def Zp (P:Program) (N:Nat) (esc:List Nat) (pf:List FuncId) (order:List Nat) (ops:Array Oper):Option (List Q):=do
 let qs ← KO P N esc ops (An ops.size)
 if US ops (RR ops.toList #[]) (qs.map (toP pf)) order (EG ops.size false)&&order.length==ops.size then some (Vy (qs.map (toP pf)) order) else none
theorem Qg {ops:Array Oper} {esc:List Nat}:∀(l:List Nat) (qs:List Q),KO P N esc ops l=some qs→qs.length=l.length
 |[],qs,h=>by simp only [KO,AJ] at h;subst h;rfl
 |j::l,qs,h=>by
  simp only [KO,AN,AB] at h
  obtain ⟨o,ho,q,hq,qs',hqs,he⟩:=h
  cases he
  simp [Qg l qs' hqs]
theorem Ym {ops:Array Oper} {esc:List Nat} {pf:List FuncId} {order:List Nat} {qs:List Q} (hm:P.follows .mixedOrders=true) (hc:Zp P N esc pf order ops=some qs) {K:CV} (hx:BR P K qs F L σ)
 (h:B9 base g lam Pr N F L σ a w0 w) {id:Nat}:(Code.region id ops true).wp P (fun e a' w'=>e= .normal∧E1 base Pr N w0 g w K a' w') a w:=by
 simp only [Zp,AN,AB] at hc
 obtain ⟨qs0,hq0,hc⟩:=hc
 split at hc
 case isFalse=>cases hc
 rename_i hp
 simp only [AP,beq_iff_eq] at hp
 cases hc
 have hlen:=Qg _ _ hq0
 have hcl:HZ ops (EG ops.size false):=by
  intro j o ho hj
  have:(EG ops.size false).getD j false=false:=by
   simp only [C9,Array.getElem?_replicate];split<;>rfl
  rw [this] at hj;cases hj
 have hany:=WO (P:=P) (fun j i=>SC) (K:=K) (qs:=qs0.map (toP pf)) (by simpa using hlen) _ _ F L σ hp.1 hcl (by simp) hx
 rw [hp.2] at hany
 refine wp_region_any hm ?_
 have hdrew:B9 base g lam Pr N F L σ a w0 { w with drawn:=w.drawn+1}:=
  h.step (w':=w.drew) (Gh.le_refl g) (fun k b hb=>rfl) (h.rel.grow (w':=w.drew) (A0 _) (fun _ _ _=>rfl) ((Below.refl base w).drew) (fun b hb=>⟨(h.rel.pr b hb).1,.inl hb⟩))
 exact QO hq0 K _ _ base g lam Pr F L σ a w0 _ hany hdrew (fun a' w' hA=>⟨rfl,E1.trans (Gh.le_refl g) ⟨A0 _,fun _ _=>rfl⟩ hA⟩)
end Go.Ab
