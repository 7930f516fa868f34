/- Regions that draw their order: one order, chosen well, stands for all. Regions that draw their order, continued: whatever order the tape picks. Conditions: none. -/
import Derived.Test.YtdbpmhfepfpldaaDoorXAb10
set_option linter.unusedSimpArgs false
set_option linter.unusedVariables false
set_option maxRecDepth 4000
set_option maxHeartbeats 8000000
open Option renaming map_some→Ax,bind_eq_bind→AE,bind_eq_some_iff→AA,getD_some→GR
open List renaming mem_append→Ac,range→Da,getElem?_map→Ao,getElem?_cons_succ→FK,contains_iff_mem→As,all_eq_true→A6,mem_zipIdx_iff_getElem?→HS,mem_singleton→BR
open Bool renaming false_eq_true→A4,or_eq_true→Bq,and_eq_true→AJ,not_eq_true'→F4
open Array renaming getD_eq_getD_getElem?→BF,getElem?_eq_getElem→Bu,replicate→Bp
open Nat renaming lt_or_ge→C4,le_refl→AP
open Option.some renaming injEq→AD
namespace Go.Ab
open Go.RowKit
variable {P:Program} {base N:Nat} {g g':Gh} {Pr:Nat→Prop} {σ σ':AF} {w0 w w':World} {lam:Nat→Option Nat} {F:Fm} {L:Lm} {a:Act}
def isV:O→Bool
 | .box _ _| .al _ _| .st _ _ _| .msl _ _ _ _ _ _| .app _ _ _ _ _| .call _ _| .G7 _ _| .Jz _ _ _ _ _| .trn _ _| .K6 _ _ _ _ _=>false
 | .ex k _=>k.pure
 |_=>true
def M4:O→Bool
 | .ld _ _| .Jo _ _| .ldl _ _=>false
 |o=>isV o
def S2:O→Bool
 | .ldl _ _=>true
 |o=>M4 o
def NG:O→Bool
 | .st _ _ _=>false
 | .box _ sh| .al _ sh=>sh
 |_=>true
def Jt:O→Bool
 | .box _ sh| .al _ sh=>sh
 |_=>true
def Fo:X→List Nat
 | .t n=>[n]
 | .c _=>[]
def OQ (l:List X):List Nat:=l.flatMap Fo
def M9:Option X→List Nat
 |none=>[]
 |some x=>Fo x
def Dk:O→List Nat
 | .mv x| .fld x _| .ld x _| .len x| .P1 x| .un _ x| .conv _ x| .ext x _| .nck x| .box x _| .ldl x _| .fd x _ _| .PO _ x| .Ro x=>Fo x
 | .ssl x lo hi=>Fo x++M9 lo++M9 hi
 | .sls x lo hi mx _=>Fo x++M9 lo++M9 hi++M9 mx
 | .mm3 _ x y z=>Fo x++Fo y++Fo z
 | .OM _ _ x y=>Fo x++Fo y
 | .pick x y z=>Fo x++Fo y++Fo z
 | .ix x y _| .TD x y| .bin _ x y| .N2 _ x y| .mm _ x y| .st x y _| .msl _ _ _ _ x y| .app _ _ _ x y| .Jz _ _ _ x y| .trn x y=>Fo x++Fo y
 | .bld _ ps| .bsl _ _ _ ps| .K6 _ _ _ _ ps=>ps.flatMap fun p=>Fo p.2.2
 | .mkf _ x y=>OQ x++OQ y
 | .al _ _=>[]
 | .call _ args| .Jo _ args| .ex _ args=>OQ args
 | .G7 x args=>Fo x++OQ args
def Q.looks (q:Q):List Nat:=Dk q.o++(match q.grd with|some (s,_)=>[s]|none=>[])
theorem A1 {F F':Fm} {x:X} (h:∀s∈Fo x,F s=F' s):xv F x=xv F' x:=by
 cases x with
 |t n=>exact h n (by simp [Fo])
 |c v=>rfl
theorem Fs {F F':Fm} {x:Option X} (h:∀s∈M9 x,F s=F' s):x.map (xv F)=x.map (xv F'):=by
 cases x with
 |none=>rfl
 |some x=>simp only [Ax];rw [A1 h]
theorem Cl {F F':Fm} {l:List X} (h:∀s∈OQ l,F s=F' s):xvs F l=xvs F' l:=by
 unfold xvs
 refine List.map_congr_left fun x hx=>A1 fun s hs=>h s ?_
 exact List.mem_flatMap.2 ⟨x,hx,hs⟩
theorem FT {F F':Fm}:∀(ps:List (Nat×Nat×X)) (z:List AV),(∀s∈ps.flatMap (fun p=>Fo p.2.2),F s=F' s)→D7 z F ps=D7 z F' ps
 |[],z,_=>rfl
 |(off,n,x)::ps,z,h=>by
  have e:xv F x=xv F' x:=A1 fun s hs=>h s (by simp [hs])
  simp only [D7,e]
  rw [FT ps _ (fun s hs=>h s (by simp only [List.flatMap_cons,Ac];exact .inr hs))]
theorem Sv {F F':Fm} {o:O} (h:∀s∈Dk o,F s=F' s):pv F L σ o=pv F' L σ o:=by
 cases o<;>simp only [Dk,Ac] at h<;>simp only [pv]<;>first
  |rw [A1 h]
  |rw [A1 (fun s hs=>h s (.inl (.inl (.inl hs)))),Fs (fun s hs=>h s (.inl (.inl (.inr hs)))),Fs (fun s hs=>h s (.inl (.inr hs))),Fs (fun s hs=>h s (.inr hs))]
  |rw [A1 (fun s hs=>h s (.inl (.inl hs))),Fs (fun s hs=>h s (.inl (.inr hs))),Fs (fun s hs=>h s (.inr hs))]
  |rw [A1 (fun s hs=>h s (.inl hs)),A1 (fun s hs=>h s (.inr hs))]
  |rw [A1 (fun s hs=>h s (.inl (.inl hs))),A1 (fun s hs=>h s (.inl (.inr hs))),A1 (fun s hs=>h s (.inr hs))]
  |rw [FT _ _ h]
  |rw [Cl h]
  |rw [Cl (fun s hs=>h s (.inl hs)),Cl (fun s hs=>h s (.inr hs))]
  |rfl
theorem UG {o:O} (h:M4 o=true) (L':Lm) (σ':AF):pv F L σ o=pv F L' σ' o:=by
 cases o<;>first|rfl|(cases h;done)
theorem VQ {o:O} (h:S2 o=true) (σ':AF):pv F L σ o=pv F L σ' o:=by
 cases o<;>first|rfl|(cases h;done)
def Yv (P:Program) (F:Fm) (L:Lm) (σ:AF) (v:AV):O→Prop
 | .Jo f args=>(xvs F args).all AV.BC=true∧v.BC=true∧AM P f (xvs F args) σ (fun v' σ'=>v'=v∧σ'=σ)
 |o=>pv F L σ o=some v
theorem K3 {F F':Fm} {v:AV} {o:O} (h:∀s∈Dk o,F s=F' s) (hy:Yv P F L σ v o):Yv P F' L σ v o:=by
 cases o<;>first
  |(simp only [Yv] at hy ⊢;rw [← Sv h];exact hy)
  |(simp only [Yv,Dk] at *;rw [← Cl h];exact hy)
theorem T2 {v:AV} {o:O} (h:M4 o=true) (L':Lm) (σ':AF) (hy:Yv P F L σ v o):Yv P F L' σ' v o:=by
 cases o<;>first|(cases h;done)|(simp only [Yv] at hy ⊢;rw [← UG h L' σ'];exact hy)
theorem Us {v:AV} {o:O} (h:S2 o=true) (σ':AF) (hy:Yv P F L σ v o):Yv P F L σ' v o:=by
 cases o<;>first|(cases h;done)|(simp only [Yv] at hy ⊢;rw [← VQ h σ'];exact hy)
theorem QG {o:O} (h:isV o=true) (dst:Option Nat) (K:BX):XO P dst K F L σ o↔∃v,Yv P F L σ v o∧K (AY dst v F) L σ:=by
 cases o<;>try (cases h;done)
 case Jo f args=>
  simp only [XO,K0,Yv]
  constructor
  · rintro ⟨h1,v,h2,h3⟩;exact ⟨v,⟨h1,h2⟩,h3⟩
  · rintro ⟨v,⟨h1,h2⟩,h3⟩;exact ⟨h1,v,h2,h3⟩
 case ex k xs=>
  have h:k.pure=true:=h
  simp only [XO,XEx,h,if_true,Yv,pv]
  constructor
  · intro hx
    obtain ⟨v,hv,hk⟩:=HP hx
    exact ⟨v,hv,hk⟩
  · rintro ⟨v,hv,hk⟩
    rw [hv];exact hk
 all_goals
  simp only [XO,Yv]
  constructor
  · intro hx
    unfold XPv at hx
    split at hx
    · rename_i v hv;exact ⟨v,hv,hx⟩
    · exact hx.elim
  · rintro ⟨v,hv,hk⟩
    rw [hv];exact hk
def YQ (P:Program) (q:Q) (F:Fm) (L:Lm) (σ:AF) (v:AV):Prop:=XG (gd F q.grd) (Yv P F L σ v q.o) (v= .tup [])
theorem Kx {F F':Fm} {q:Q} (h:∀s∈q.looks,F s=F' s):gd F q.grd=gd F' q.grd:=by
 cases hg:q.grd with
 |none=>rfl
 |some gw=>
  obtain ⟨s,want⟩:=gw
  simp only [gd];rw [h s (by simp [Q.looks,hg])]
theorem K1 {F F':Fm} {q:Q} {v:AV} (h:∀s∈q.looks,F s=F' s) (hy:YQ P q F L σ v):YQ P q F' L σ v:=by
 have h1:∀s∈Dk q.o,F s=F' s:=fun s hs=>h s (by simp [Q.looks,hs])
 unfold YQ at hy ⊢
 rw [← Kx h]
 cases hc:gd F q.grd with
 |none=>rw [hc] at hy;exact hy.elim
 |some b=>rw [hc] at hy;cases b<;>first|exact hy|exact K3 h1 hy
theorem T1 {q:Q} {v:AV} (h:M4 q.o=true) (L':Lm) (σ':AF) (hy:YQ P q F L σ v):YQ P q F L' σ' v:=by
 unfold YQ at hy ⊢
 cases hc:gd F q.grd with
 |none=>rw [hc] at hy;exact hy.elim
 |some b=>rw [hc] at hy;cases b<;>first|exact hy|exact T2 h L' σ' hy
theorem Ur {q:Q} {v:AV} (h:S2 q.o=true) (σ':AF) (hy:YQ P q F L σ v):YQ P q F L σ' v:=by
 unfold YQ at hy ⊢
 cases hc:gd F q.grd with
 |none=>rw [hc] at hy;exact hy.elim
 |some b=>rw [hc] at hy;cases b<;>first|exact hy|exact Us h σ' hy
theorem Rg {q:Q} (h:isV q.o=true) (K:BX):XQ P q K F L σ↔∃v,YQ P q F L σ v∧K (AY q.dst v F) L σ:=by
 unfold XQ YQ
 cases hc:gd F q.grd with
 |none=>exact ⟨fun hk=>hk.elim,fun ⟨_,hv,_⟩=>hv.elim⟩
 |some b=>
  cases b
  · exact ⟨fun hk=>⟨_,rfl,hk⟩,fun ⟨v,hv,hk⟩=>by have hv:v= .tup []:=hv;subst hv;exact hk⟩
  · exact QG h q.dst K
theorem TZ {o:O} {dst:Option Nat} {K K':BX} (htm:Jt o=true) (hk:∀u L' σ',K (AY dst u F) L' σ'→K' (AY dst u F) L' σ') (hx:XO P dst K F L σ o):XO P dst K' F L σ o:=by
 have hF:dst=none→∀L' σ',K F L' σ'→K' F L' σ':=fun hd L' σ' h=>by have:=hk .undef L' σ';rw [hd] at this;exact this h
 by_cases hV:isV o=true
 · rw [QG hV] at hx ⊢
   obtain ⟨v,h1,h2⟩:=hx
   exact ⟨v,h1,hk _ _ _ h2⟩
 · cases o<;>simp only [isV,not_true_eq_false] at hV
   case box x sh=>
    simp only [XO,HU] at hx ⊢
    refine ⟨hx.1,?_⟩
    have hx:=hx.2
    cases dst with
    |none=>exact hx.elim
    |some d=>
     cases sh with
     |true=>exact fun i hi=>hk (.gp i 0) _ _ (hx i hi)
     |false=>cases htm
   case al z sh=>
    simp only [XO,HU] at hx ⊢
    refine ⟨hx.1,?_⟩
    have hx:=hx.2
    cases dst with
    |none=>exact hx.elim
    |some d=>
     cases sh with
     |true=>exact fun i hi=>hk (.gp i 0) _ _ (hx i hi)
     |false=>cases htm
   case st x v n=>
    simp only [XO,XSt] at hx ⊢
    obtain ⟨h1,h2,h3,h4⟩:=hx
    refine ⟨h1,h2,h3,?_⟩
    split at h4
    · exact hF h1 _ _ h4
    · exact h4.elim
   case msl e s b z l c=>
    obtain ⟨k,k',n,h1,h2,h3,h4,h5,h6⟩:=hx
    exact ⟨k,k',n,h1,h2,h3,h4,h5,fun i hi=>hk _ _ _ (h6 i hi)⟩
   case Jz e s b x y=>
    obtain ⟨n,cs,σ1,srows,h1,h2,h3,h4,h5,h6,h7⟩:=hx
    exact ⟨n,cs,σ1,srows,h1,h2,h3,fun e=>hk _ _ _ (h4 e),h5,h6,fun e t ht=>hk _ _ _ (h7 e t ht)⟩
   case trn x y=>
    obtain ⟨k,s,e,cs,σ1,h1,h2⟩:=hx
    exact ⟨k,s,e,cs,σ1,h1,fun t ht=>hk _ _ _ (h2 t ht)⟩
   case K6 e s l z ps=>
    obtain ⟨cs,h1,h2⟩:=hx
    exact ⟨cs,h1,h2.imp (fun h2 t ht=>hk _ _ _ (h2 t ht)) fun ⟨ds,h3,h4,h5⟩=>⟨ds,h3,h4,fun t ht=>hk _ _ _ (h5 t ht)⟩⟩
   case app e s b x y=>
    rcases hx with ⟨rows,σ1,srows,h1,h2,h3,h4,h5,h6⟩|⟨rows,srows,h1,h2,h3,h4,h5,h6,h7⟩
    · exact .inl ⟨rows,σ1,srows,h1,h2,h3,h4,h5,fun t ht=>hk _ _ _ (h6 t ht)⟩
    · exact .inr ⟨rows,srows,h1,h2,h3,h4,h5,h6,hk _ _ _ h7⟩
   case call f args=>
    obtain ⟨h1,R,h2,h3⟩:=hx
    exact ⟨h1,R,h2,fun v σ' hv=>hk _ _ _ (h3 v σ' hv)⟩
   case G7 x args=>
    obtain ⟨f,first,caps,h0,hb,h1,R,h2,h3⟩:=hx
    exact ⟨f,first,caps,h0,hb,h1,R,h2,fun v σ' hv=>hk _ _ _ (h3 v σ' hv)⟩
   case ex k xs=>
    simp only [XO,XEx,hV,A4,if_false] at hx ⊢
    exact ⟨hx.1,hx.2.mono fun v σ' _ hv=>hk _ _ _ hv⟩
theorem Pd {q:Q} {K K':BX} (htm:Jt q.o=true) (hk:∀u L' σ',K (AY q.dst u F) L' σ'→K' (AY q.dst u F) L' σ') (hx:XQ P q K F L σ):XQ P q K' F L σ:=by
 unfold XQ at hx ⊢
 cases hc:gd F q.grd with
 |none=>rw [hc] at hx;exact hx.elim
 |some b=>rw [hc] at hx;cases b<;>first|exact hk _ _ _ hx|exact TZ htm hk hx
theorem Rf {o:O} {dst:Option Nat} {K K':BX} (htm:NG o=true) (hk:∀u σ',K (AY dst u F) L σ'→K' (AY dst u F) L σ') (hx:XO P dst K F L σ o):XO P dst K' F L σ o:=by
 by_cases hV:isV o=true
 · rw [QG hV] at hx ⊢
   obtain ⟨v,h1,h2⟩:=hx
   exact ⟨v,h1,hk _ _ h2⟩
 · cases o<;>simp only [isV,not_true_eq_false] at hV
   case box x sh=>
    simp only [XO,HU] at hx ⊢
    refine ⟨hx.1,?_⟩
    have hx:=hx.2
    cases dst with
    |none=>exact hx.elim
    |some d=>
     cases sh with
     |true=>exact fun i hi=>hk (.gp i 0) _ (hx i hi)
     |false=>cases htm
   case al z sh=>
    simp only [XO,HU] at hx ⊢
    refine ⟨hx.1,?_⟩
    have hx:=hx.2
    cases dst with
    |none=>exact hx.elim
    |some d=>
     cases sh with
     |true=>exact fun i hi=>hk (.gp i 0) _ (hx i hi)
     |false=>cases htm
   case st x v n=>cases htm
   case msl e s b z l c=>
    obtain ⟨k,k',n,h1,h2,h3,h4,h5,h6⟩:=hx
    exact ⟨k,k',n,h1,h2,h3,h4,h5,fun i hi=>hk _ _ (h6 i hi)⟩
   case Jz e s b x y=>
    obtain ⟨n,cs,σ1,srows,h1,h2,h3,h4,h5,h6,h7⟩:=hx
    exact ⟨n,cs,σ1,srows,h1,h2,h3,fun e=>hk _ _ (h4 e),h5,h6,fun e t ht=>hk _ _ (h7 e t ht)⟩
   case trn x y=>
    obtain ⟨k,s,e,cs,σ1,h1,h2⟩:=hx
    exact ⟨k,s,e,cs,σ1,h1,fun t ht=>hk _ _ (h2 t ht)⟩
   case K6 e s l z ps=>
    obtain ⟨cs,h1,h2⟩:=hx
    exact ⟨cs,h1,h2.imp (fun h2 t ht=>hk _ _ (h2 t ht)) fun ⟨ds,h3,h4,h5⟩=>⟨ds,h3,h4,fun t ht=>hk _ _ (h5 t ht)⟩⟩
   case app e s b x y=>
    rcases hx with ⟨rows,σ1,srows,h1,h2,h3,h4,h5,h6⟩|⟨rows,srows,h1,h2,h3,h4,h5,h6,h7⟩
    · exact .inl ⟨rows,σ1,srows,h1,h2,h3,h4,h5,fun t ht=>hk _ _ (h6 t ht)⟩
    · exact .inr ⟨rows,srows,h1,h2,h3,h4,h5,h6,hk _ _ h7⟩
   case call f args=>
    obtain ⟨h1,R,h2,h3⟩:=hx
    exact ⟨h1,R,h2,fun v σ' hv=>hk _ _ (h3 v σ' hv)⟩
   case G7 x args=>
    obtain ⟨f,first,caps,h0,hb,h1,R,h2,h3⟩:=hx
    exact ⟨f,first,caps,h0,hb,h1,R,h2,fun v σ' hv=>hk _ _ (h3 v σ' hv)⟩
   case ex k xs=>
    simp only [XO,XEx,hV,A4,if_false] at hx ⊢
    exact ⟨hx.1,hx.2.mono fun v σ' _ hv=>hk _ _ hv⟩
theorem Rh {q:Q} {K K':BX} (htm:NG q.o=true) (hk:∀u σ',K (AY q.dst u F) L σ'→K' (AY q.dst u F) L σ') (hx:XQ P q K F L σ):XQ P q K' F L σ:=by
 unfold XQ at hx ⊢
 cases hc:gd F q.grd with
 |none=>rw [hc] at hx;exact hx.elim
 |some b=>rw [hc] at hx;cases b<;>first|exact hk _ _ hx|exact Rf htm hk hx
theorem JW {d e:Option Nat} (h:∀k,d=some k→e≠some k) (u v:AV) (F:Fm):AY d u (AY e v F)=AY e v (AY d u F):=by
 cases d with
 |none=>rfl
 |some d=>
  cases e with
  |none=>rfl
  |some e=>
   have hne:d≠e:=fun he=>h d rfl (he ▸ rfl)
   funext s
   simp only [AY,put]
   by_cases h1:s=d<;>by_cases h2:s=e<;>simp [h1,h2]
   · omega
   · intro h3;exact absurd h3 hne
   · intro h3;exact absurd h3.symm hne
theorem NF {d:Option Nat} {s:Nat} (h:d≠some s) (v:AV) (F:Fm):AY d v F s=F s:=by
 cases d with
 |none=>rfl
 |some d=>simp only [AY,put];rw [if_neg];intro e;exact h (by rw [e])
theorem Um {o:O} {dst d:Option Nat} {v:AV} {K:BX} (ht:Jt o=true) (hl:∀s∈Dk o,d≠some s) (hd:∀k,dst=some k→d≠some k)
 (hx:XO P dst K (AY d v F) L σ o):XO P dst (fun F L σ=>K (AY d v F) L σ) F L σ o:=by
 have hc:∀u,AY dst u (AY d v F)=AY d v (AY dst u F):=fun u=>JW hd u v F
 have hF:∀s∈Dk o,AY d v F s=F s:=fun s hs=>NF (hl s hs) v F
 by_cases hV:isV o=true
 · rw [QG hV] at hx ⊢
   obtain ⟨u,h1,h2⟩:=hx
   refine ⟨u,K3 hF h1,?_⟩
   show K (AY d v (AY dst u F)) L σ
   rw [← hc u];exact h2
 · cases o<;>simp only [isV,not_true_eq_false] at hV<;>simp only [Dk,Ac] at hF
   case box x sh=>
    cases sh<;>simp only [Jt] at ht
    · cases ht
    simp only [XO,HU] at hx ⊢
    rw [← A1 hF]
    refine ⟨hx.1,?_⟩
    have hx:=hx.2
    cases dst with
    |none=>exact hx.elim
    |some e=>exact fun i hi=>(by show K (AY d v (AY (some e) (.gp i 0) F)) _ _;rw [← hc (.gp i 0)];exact hx i hi)
   case al z sh=>
    cases sh<;>simp only [Jt] at ht
    · cases ht
    simp only [XO,HU] at hx ⊢
    refine ⟨hx.1,?_⟩
    have hx:=hx.2
    cases dst with
    |none=>exact hx.elim
    |some e=>exact fun i hi=>(by show K (AY d v (AY (some e) (.gp i 0) F)) _ _;rw [← hc (.gp i 0)];exact hx i hi)
   case st x y n=>
    simp only [XO,XSt] at hx ⊢
    rw [← A1 (fun s hs=>hF s (.inl hs)),← A1 (fun s hs=>hF s (.inr hs))]
    obtain ⟨h1,h2,h3,h4⟩:=hx
    refine ⟨h1,h2,h3,?_⟩
    cases he:stA L σ (xv (AY d v F) y).cells (xv (AY d v F) x) with
    |none=>rw [he] at h4;exact h4.elim
    |some r=>obtain ⟨L',σ'⟩:=r;rw [he] at h4;exact h4
   case Jz e s b x y=>
    obtain ⟨n,cs,σ1,srows,h1,h2,h3,h4,h5,h6,h7⟩:=hx
    refine ⟨n,cs,σ1,srows,by rw [← A1 (fun s hs=>hF s (.inl hs))];exact h1,by rw [← A1 (fun s hs=>hF s (.inr hs))];exact h2,h3,fun e=>?_,h5,h6,fun e t ht=>?_⟩
    · show K (AY d v (AY dst _ F)) _ _
      rw [← hc,← A1 (fun s hs=>hF s (.inl hs))];exact h4 e
    · show K (AY d v (AY dst _ F)) _ _
      rw [← hc];exact h7 e t ht
   case trn x y=>
    obtain ⟨k,s,e,cs,σ1,h1,h2⟩:=hx
    refine ⟨k,s,e,cs,σ1,by rw [← A1 (fun s hs=>hF s (.inl hs)),← A1 (fun s hs=>hF s (.inr hs))];exact h1,fun t ht=>?_⟩
    show K (AY d v (AY dst _ F)) _ _
    rw [← hc];exact h2 t ht
   case K6 e s l z ps=>
    obtain ⟨cs,h1,h2⟩:=hx
    refine ⟨cs,by rw [← FT _ _ hF];exact h1,h2.imp (fun h2 t ht=>?_) fun ⟨ds,h3,h4,h5⟩=>⟨ds,h3,h4,fun t ht=>?_⟩⟩
    · show K (AY d v (AY dst _ F)) _ _
      rw [← hc];exact h2 t ht
    · show K (AY d v (AY dst _ F)) _ _
      rw [← hc];exact h5 t ht
   case msl e s b z l c=>
    obtain ⟨k,k',n,h1,h2,h3,h4,h5,h6⟩:=hx
    refine ⟨k,k',n,by rw [← A1 (fun s hs=>hF s (.inl hs))];exact h1,by rw [← A1 (fun s hs=>hF s (.inr hs))];exact h2,h3,h4,h5,fun i hi=>?_⟩
    show K (AY d v (AY dst _ F)) _ _
    rw [← hc];exact h6 i hi
   case app e s b x y=>
    rcases hx with ⟨rows,σ1,srows,h1,h2,h3,h4,h5,h6⟩|⟨rows,srows,h1,h2,h3,h4,h5,h6,h7⟩
    · refine .inl ⟨rows,σ1,srows,by rw [← A1 (fun s hs=>hF s (.inl hs))];exact h1,by rw [← A1 (fun s hs=>hF s (.inr hs))];exact h2,h3,h4,h5,fun t ht=>?_⟩
      show K (AY d v (AY dst _ F)) _ _
      rw [← hc];exact h6 t ht
    · refine .inr ⟨rows,srows,by rw [← A1 (fun s hs=>hF s (.inl hs))];exact h1,by rw [← A1 (fun s hs=>hF s (.inr hs))];exact h2,h3,h4,h5,h6,?_⟩
      show K (AY d v (AY dst _ F)) _ _
      rw [← hc];exact h7
   case call f args=>
    obtain ⟨h1,R,h2,h3⟩:=hx
    rw [Cl hF] at h1 h2
    refine ⟨h1,R,h2,fun u σ' hv=>?_⟩
    show K (AY d v (AY dst _ F)) _ _
    rw [← hc];exact h3 u σ' hv
   case G7 x args=>
    obtain ⟨f,first,caps,h0,hb,h1,R,h2,h3⟩:=hx
    rw [Cl (fun s hs=>hF s (.inr hs))] at h1 h2
    refine ⟨f,first,caps,by rw [← A1 (fun s hs=>hF s (.inl hs))];exact h0,hb,h1,R,h2,fun u σ' hv=>?_⟩
    show K (AY d v (AY dst _ F)) _ _
    rw [← hc];exact h3 u σ' hv
   case ex k xs=>
    simp only [XO,XEx,hV,A4,if_false] at hx ⊢
    rw [Cl hF] at hx
    refine ⟨hx.1,hx.2.mono fun u σ' _ hv=>?_⟩
    show K (AY d v (AY dst _ F)) _ _
    rw [← hc];exact hv
theorem Uo {q:Q} {d:Option Nat} {v:AV} {K:BX} (ht:Jt q.o=true) (hl:∀s∈q.looks,d≠some s) (hd:∀k,q.dst=some k→d≠some k)
 (hx:XQ P q K (AY d v F) L σ):XQ P q (fun F L σ=>K (AY d v F) L σ) F L σ:=by
 have h1:∀s∈Dk q.o,d≠some s:=fun s hs=>hl s (by simp [Q.looks,hs])
 unfold XQ at hx ⊢
 rw [Kx (F:=AY d v F) (F':=F) (fun s hs=>NF (hl s hs) v F)] at hx
 cases hc:gd F q.grd with
 |none=>rw [hc] at hx;exact hx.elim
 |some b=>
  rw [hc] at hx
  cases b
  · have hx:K (AY q.dst (.tup []) (AY d v F)) L σ:=hx
    show K (AY d v (AY q.dst (.tup []) F)) L σ
    rw [← JW hd];exact hx
  · exact Um ht h1 hd hx
end Go.Ab
namespace Go.Ab
open Go.RowKit
variable {P:Program} {base N:Nat} {g g':Gh} {Pr:Nat→Prop} {σ σ':AF} {w0 w w':World} {lam:Nat→Option Nat} {F:Fm} {L:Lm} {a:Act}
def JA (P:Program) (ops:Array Oper) (qs:List Q) (K:BX):Nat→Array Bool→BX
 |0,listed,F,L,σ=>Region.ready .any ops listed=[]∧K F L σ
 |fuel+1,listed,F,L,σ=>(Region.ready .any ops listed=[]→K F L σ)∧
  ∀i∈Region.ready .any ops listed,∃q,qs[i]?=some q∧XQ P q (JA P ops qs K fuel (listed.setIfInBounds i true)) F L σ
def toP (pf:List FuncId) (q:Q):Q:=
 match q.o with
 | .call f args=>if pf.contains f then { q with o:= .Jo f args} else q
 |_=>q
theorem R6 {pf:List FuncId} {q:Q} {K:BX} (h:XQ P (toP pf q) K F L σ):XQ P q K F L σ:=by
 obtain ⟨dst,o,grd⟩:=q
 cases o<;>try exact h
 rename_i f args
 simp only [toP] at h
 split at h
 · unfold XQ at h ⊢
   simp only at h ⊢
   cases hc:gd F grd with
   |none=>rw [hc] at h;exact h.elim
   |some b=>
    rw [hc] at h
    cases b
    · exact h
    · obtain ⟨h1,v,⟨_,h2⟩,h3⟩:=h
      exact ⟨h1,_,h2,fun v' σ' ⟨e1,e2⟩=>by subst e1;subst e2;exact h3⟩
 · exact h
theorem MQ {ops:Array Oper} {esc:List Nat}:∀(l:List Nat) (qs:List Q),Eo P N esc ops l=some qs→∀(k i:Nat),l[k]?=some i→∃o q,ops[i]?=some o∧qs[k]?=some q∧Pm P N esc ops o=some q
 |[],_,_,k,i,hk=>by simp at hk
 |j::l,qs,h,k,i,hk=>by
  simp only [Eo,AE,AA] at h
  obtain ⟨o,ho,q,hq,qs',hqs,he⟩:=h
  cases he
  cases k with
  |zero=>simp at hk;subst hk;exact ⟨o,q,ho,rfl,hq⟩
  |succ k=>simpa using MQ l qs' hqs k i (by simpa using hk)
theorem II {ops:Array Oper} {esc:List Nat} {pf:List FuncId} {qs:List Q} (hc:Eo P N esc ops (Da ops.size)=some qs) (K:BX) {R:Exit→Act→World→Prop}:
 ∀(fuel:Nat) (listed:Array Bool) (base:Nat) (g:Gh) (lam:Nat→Option Nat) (Pr:Nat→Prop) (F:Fm) (L:Lm) (σ:AF) (a:Act) (w0 w:World),
  JA P ops (qs.map (toP pf)) K fuel listed F L σ→Ak base g lam Pr N F L σ a w0 w→(∀a' w',Bz base Pr N w0 g w K a' w'→R .normal a' w')→wpAny P .any ops R fuel listed a w
 |0,listed,base,g,lam,Pr,F,L,σ,a,w0,w,hx,h,hR=>⟨hx.1,hR _ _ ⟨g,lam,F,L,σ,Gh.le_refl g,KP.refl Pr w,h,hx.2⟩⟩
 |fuel+1,listed,base,g,lam,Pr,F,L,σ,a,w0,w,hx,h,hR=>by
  refine ⟨fun he=>hR _ _ ⟨g,lam,F,L,σ,Gh.le_refl g,KP.refl Pr w,h,hx.1 he⟩,fun i hi=>?_⟩
  obtain ⟨q',hq',hxq⟩:=hx.2 i hi
  have hlt:i < ops.size:=by
   have:=(List.mem_filter.1 hi).1
   simpa using this
  obtain ⟨o,q,ho,hq,hcq⟩:=MQ (Da ops.size) qs hc i i (by simp [hlt])
  rw [Ao,hq] at hq'
  cases hq'
  refine wpOp_mono ?_ (OW ho hcq (R6 hxq) h)
  rintro a' w' ⟨g',lam',F',L',σ',h1,h2,h3,h4⟩
  exact II hc K fuel _ base g' lam' Pr F' L' σ' a' w0 w' h4 h3 (fun a2 w2 hA=>hR _ _ (Bz.trans h1 h2 hA))
inductive Anc (ops:Array Oper):Nat→Nat→Prop
 |one {j:Nat} {o:Oper} {e:Edge} (ho:ops[j]?=some o) (he:e∈o.after) (hb:Region.binds .any e=true):Anc ops j e.on
 |step {j i:Nat} {o:Oper} {e:Edge} (ho:ops[j]?=some o) (he:e∈o.after) (hb:Region.binds .any e=true) (h:Anc ops e.on i):Anc ops j i
def My (acc:Array Nat) (l:List Edge):Nat:=l.foldl (fun s e=>if Region.binds .any e then s|||2 ^ e.on|||acc.getD e.on 0 else s) 0
def JB:List Oper→Array Nat→Array Nat
 |[],acc=>acc
 |o::l,acc=>JB l (acc.push (My acc o.after.toList))
def De (ops:Array Oper) (listed:Array Bool):Prop:=
 ∀j o,ops[j]?=some o→listed.getD j false=true→∀e∈o.after,Region.binds .any e=true→listed.getD e.on false=true
theorem K5 {ops:Array Oper} {listed:Array Bool} (hc:De ops listed) {j i:Nat} (h:Anc ops j i):(∀o,ops[j]?=some o→∀e∈o.after,Region.binds .any e=true→listed.getD e.on false=true)→listed.getD i false=true:=by
 induction h with
 |one ho he hb=>exact fun hj=>hj _ ho _ he hb
 |step ho he hb _ ih=>exact fun hj=>ih fun o' ho' e' he' hb'=>hc _ o' ho' (hj _ ho _ he hb) e' he' hb'
theorem LJ {ops:Array Oper} {acc:Array Nat} (hacc:∀k i,(acc.getD k 0).testBit i=true→Anc ops k i) {j:Nat} {o:Oper} (ho:ops[j]?=some o):
 ∀(l:List Edge) (s:Nat),(∀e∈l,e∈o.after)→(∀i,s.testBit i=true→Anc ops j i)→
  ∀i,(l.foldl (fun s e=>if Region.binds .any e then s|||2 ^ e.on|||acc.getD e.on 0 else s) s).testBit i=true→Anc ops j i
 |[],s,_,hs,i,hi=>hs i hi
 |e::l,s,hl,hs,i,hi=>by
  simp only [List.foldl_cons] at hi
  refine LJ hacc ho l _ (fun e he=>hl e (by simp [he])) ?_ i hi
  intro i' hi'
  by_cases hb:Region.binds .any e=true
  · simp only [hb,if_true,Nat.testBit_or,Bq] at hi'
    rcases hi' with (h|h)|h
    · exact hs i' h
    · rw [Nat.testBit_two_pow] at h
      have:e.on=i':=by simpa using h
      exact this ▸ .one ho (hl e (by simp)) hb
    · exact .step ho (hl e (by simp)) hb (hacc _ _ h)
  · simp only [hb] at hi'
    exact hs i' hi'
theorem IN {ops:Array Oper}:∀(l:List Oper) (acc:Array Nat),(∀k,l[k]?=ops[acc.size+k]?)→(∀k i,(acc.getD k 0).testBit i=true→Anc ops k i)→
 ∀k i,((JB l acc).getD k 0).testBit i=true→Anc ops k i
 |[],acc,_,h=>h
 |o::l,acc,hl,h=>by
  have ho:ops[acc.size]?=some o:=by simpa using (hl 0).symm
  refine IN l _ (fun k=>?_) (fun k i hi=>?_)
  · have:=hl (k+1)
    simp only [FK] at this
    rw [this,Array.size_push];congr 1;omega
  · by_cases e:k=acc.size
    · subst e
      have:(acc.push (My acc o.after.toList)).getD acc.size 0=My acc o.after.toList:=by simp
      rw [this] at hi
      exact LJ h ho o.after.toList 0 (fun e he=>by simpa using he) (fun i hi=>by simp at hi) i hi
    · have:(acc.push (My acc o.after.toList)).getD k 0=acc.getD k 0:=by
       simp only [BF,Array.getElem?_push,e,if_false]
      rw [this] at hi
      exact h k i hi
theorem J1 {ops:Array Oper} {j i:Nat} (h:((JB ops.toList #[]).getD j 0).testBit i=true):Anc ops j i:=
 IN ops.toList #[] (fun k=>by simp) (fun k i hi=>by simp at hi) j i h
theorem EC {ops:Array Oper} {listed:Array Bool} {i:Nat}:i∈Region.ready .any ops listed↔i < ops.size∧listed.getD i true=false∧∃o,ops[i]?=some o∧∀e∈o.after,Region.binds .any e=true→listed.getD e.on false=true:=by
 unfold Region.ready
 simp only [List.mem_filter,List.mem_range,AJ,F4]
 constructor
 · rintro ⟨h1,h2,h3⟩
   refine ⟨h1,h2,?_⟩
   cases ho:ops[i]? with
   |none=>simp [ho] at h3
   |some o=>
    refine ⟨o,rfl,fun e he hb=>?_⟩
    simp only [ho,Ax,GR,Array.all_eq_true'] at h3
    have:=h3 e he
    simpa [hb] using this
 · rintro ⟨h1,h2,o,ho,h3⟩
   refine ⟨h1,h2,?_⟩
   simp only [ho,Ax,GR,Array.all_eq_true']
   intro e he
   by_cases hb:Region.binds .any e=true
   · simp [h3 e he hb]
   · simp [hb]
theorem He {listed:Array Bool} {i:Nat} (h:i < listed.size) (d:Bool):(listed.setIfInBounds i true).getD i d=true:=by simp [h]
theorem Di {listed:Array Bool} {i j:Nat} (h:i≠j) (d:Bool):(listed.setIfInBounds i true).getD j d=listed.getD j d:=by
 simp [Array.getElem?_setIfInBounds_ne h]
theorem JM {listed:Array Bool} {i j:Nat} (h:listed.getD j false=true):(listed.setIfInBounds i true).getD j false=true:=by
 by_cases e:i=j
 · subst e
   have:i < listed.size:=by
    rcases C4 i listed.size with h1|h1
    · exact h1
    · simp [h1] at h
   exact He this false
 · rw [Di e];exact h
theorem De.set {ops:Array Oper} {listed:Array Bool} (hc:De ops listed) {i:Nat} (hi:i∈Region.ready .any ops listed):De ops (listed.setIfInBounds i true):=by
 intro j o ho hj e he hb
 by_cases e':i=j
 · subst e'
   obtain ⟨_,_,o',ho',hall⟩:=EC.1 hi
   rw [ho] at ho';cases ho'
   exact JM (hall e he hb)
 · rw [Di e'] at hj
   exact JM (hc j o ho hj e he hb)
theorem Fj {ops:Array Oper} {listed:Array Bool} {i j:Nat} (hj:j∈Region.ready .any ops listed) (hne:i≠j):j∈Region.ready .any ops (listed.setIfInBounds i true):=by
 obtain ⟨h1,h2,o,ho,h3⟩:=EC.1 hj
 exact EC.2 ⟨h1,by rw [Di hne];exact h2,o,ho,fun e he hb=>JM (h3 e he hb)⟩
def OY (x y:Q):Bool:=
 (match x.dst with|some d=>!y.looks.contains d&&y.dst != some d|none=>true)&&(match y.dst with|some d=>!x.looks.contains d|none=>true)
theorem NZ {x y:Q} (h:OY x y=true):(∀s∈y.looks,x.dst≠some s)∧(∀k,y.dst=some k→x.dst≠some k)∧(∀s∈x.looks,y.dst≠some s):=by
 unfold OY at h
 simp only [AJ] at h
 refine ⟨fun s hs he=>?_,fun k hk he=>?_,fun s hs he=>?_⟩
 · rw [he] at h;simp [hs] at h
 · rw [he,hk] at h;simp at h
 · rw [he] at h;simp [hs] at h
def before (tab:Array Nat) (i j:Nat) (qi qj:Q):Bool:=(tab.getD j 0).testBit i||(OY qi qj&&Jt qj.o&&(isV qj.o||M4 qi.o||(S2 qi.o&&NG qj.o)))
theorem Lf {ops:Array Oper} {tab:Array Nat} (htab:∀j i,(tab.getD j 0).testBit i=true→Anc ops j i) {qs:List Q} {K:BX} {i:Nat} {qi:Q} (hi:qs[i]?=some qi) (hV:isV qi.o=true):
 ∀(fuel:Nat) (listed:Array Bool) (F:Fm) (L:Lm) (σ:AF) (v:AV),De ops listed→listed.size=ops.size→
  (∀j qj,qs[j]?=some qj→j≠i→listed.getD j true=false→before tab i j qi qj=true)→
  i∈Region.ready .any ops listed→YQ P qi F L σ v→JA P ops qs K fuel (listed.setIfInBounds i true) (AY qi.dst v F) L σ→JA P ops qs K (fuel+1) listed F L σ:=by
 intro fuel
 induction fuel with
 |zero=>
  intro listed F L σ v hcl hsz hb hr hy H
  refine ⟨fun h=>(by rw [h] at hr;cases hr),fun j hj=>?_⟩
  by_cases hji:i=j
  · subst hji;exact ⟨qi,hi,(Rg hV _).2 ⟨v,hy,H⟩⟩
  · have:=Fj hj hji
    rw [H.1] at this;cases this
 |succ fuel ih=>
  intro listed F L σ v hcl hsz hb hr hy H
  refine ⟨fun h=>(by rw [h] at hr;cases hr),fun j hj=>?_⟩
  by_cases hji:i=j
  · subst hji;exact ⟨qi,hi,(Rg hV _).2 ⟨v,hy,H⟩⟩
  · obtain ⟨qj,hqj,hxj⟩:=H.2 j (Fj hj hji)
    obtain ⟨hjlt,hjun,oj,hoj,hjall⟩:=EC.1 hj
    have hbj:=hb j qj hqj (Ne.symm hji) hjun
    have hiun:=(EC.1 hr).2.1
    have hilt:=(EC.1 hr).1
    unfold before at hbj
    simp only [Bq,AJ] at hbj
    rcases hbj with hanc|⟨⟨hap,htame⟩,hcls⟩
    · have h1:=K5 hcl (htab j i hanc) (fun o ho=>by rw [hoj] at ho;cases ho;exact hjall)
      rw [BF,Bu (by omega)] at h1 hiun
      simp at h1 hiun
      rw [h1] at hiun;cases hiun
    · obtain ⟨a1,a2,a3⟩:=NZ hap
      refine ⟨qj,hqj,?_⟩
      have hxj':=Uo htame a1 a2 hxj
      have hcl':=hcl.set hj
      have hr':i∈Region.ready .any ops (listed.setIfInBounds j true):=Fj hr (Ne.symm hji)
      have hb':∀k qk,qs[k]?=some qk→k≠i→(listed.setIfInBounds j true).getD k true=false→before tab i k qi qk=true:=fun k qk hk hki hun=>by
       by_cases e:j=k
       · subst e;rw [He (by omega)] at hun;cases hun
       · rw [Di e] at hun;exact hb k qk hk hki hun
      have hcomm:(listed.setIfInBounds i true).setIfInBounds j true=(listed.setIfInBounds j true).setIfInBounds i true:=Array.setIfInBounds_comm _ _ hji
      have hlook:∀u,∀s∈qi.looks,F s=AY qj.dst u F s:=fun u s hs=>(NF (a3 s hs) u F).symm
      by_cases hVj:isV qj.o=true
      · rw [Rg hVj] at hxj' ⊢
        obtain ⟨u,hu,hk⟩:=hxj'
        refine ⟨u,hu,ih _ _ _ _ v hcl' (by simpa using hsz) hb' hr' (K1 (hlook u) hy) ?_⟩
        rw [← hcomm];exact hk
      · have hcls':M4 qi.o=true∨(S2 qi.o=true∧NG qj.o=true):=by
         rcases hcls with (h1|h1)|h1
         · exact absurd h1 hVj
         · exact .inl h1
         · exact .inr h1
        rcases hcls' with hp|hp
        case inr=>
         refine Rh hp.2 (fun u σ' hk=>?_) hxj'
         refine ih _ _ _ _ v hcl' (by simpa using hsz) hb' hr' (Ur hp.1 σ' (K1 (hlook u) hy)) ?_
         rw [← hcomm];exact hk
        refine Pd htame (fun u L' σ' hk=>?_) hxj'
        refine ih _ _ _ _ v hcl' (by simpa using hsz) hb' hr' (T1 hp L' σ' (K1 (hlook u) hy)) ?_
        rw [← hcomm];exact hk
def KW (tab:Array Nat) (qs:List Q) (listed:Array Bool) (i:Nat):Bool:=
 match qs[i]? with
 |some qi=>isV qi.o&&(qs.zipIdx.all fun (qj,j)=>j==i||listed.getD j true||before tab i j qi qj)
 |none=>false
def LO (ops:Array Oper) (tab:Array Nat) (qs:List Q):List Nat→Array Bool→Bool
 |[],listed=>(Region.ready .any ops listed).isEmpty
 |i::rest,listed=>(Region.ready .any ops listed).contains i&&(KW tab qs listed i||(Region.ready .any ops listed==[i]&&((qs[i]?).map fun q=>Jt q.o).getD false))&&LO ops tab qs rest (listed.setIfInBounds i true)
def M2 (qs:List Q) (order:List Nat):List Q:=order.filterMap (qs[·]?)
theorem Md {ops:Array Oper} {tab:Array Nat} (htab:∀j i,(tab.getD j 0).testBit i=true→Anc ops j i) {qs:List Q} {K:BX} (hsz:qs.length=ops.size):∀(order:List Nat) (listed:Array Bool) (F:Fm) (L:Lm) (σ:AF),LO ops tab qs order listed=true→De ops listed→listed.size=ops.size→
 Ai P K (M2 qs order) F L σ→JA P ops qs K order.length listed F L σ
 |[],listed,F,L,σ,hp,_,_,hx=>⟨by simpa [LO] using hp,hx⟩
 |i::rest,listed,F,L,σ,hp,hcl,hls,hx=>by
  simp only [LO,AJ,Bq,As] at hp
  obtain ⟨⟨hr,hok⟩,hrest⟩:=hp
  have hilt:=(EC.1 hr).1
  have hqi:qs[i]?=some qs[i]:=by simp
  have hpk:M2 qs (i::rest)=qs[i]::M2 qs rest:=by unfold M2;rw [List.filterMap_cons,hqi]
  rw [hpk] at hx
  have hx:XQ P qs[i] (Ai P K (M2 qs rest)) F L σ:=hx
  have ih:=fun F L σ=>Md htab (K:=K) hsz rest (listed.setIfInBounds i true) F L σ hrest (hcl.set hr) (by simpa using hls)
  rcases hok with hok|hok
  · unfold KW at hok
    rw [hqi] at hok
    simp only [AJ,A6] at hok
    obtain ⟨v,hy,hk⟩:=(Rg hok.1 _).1 hx
    refine Lf htab hqi hok.1 rest.length listed F L σ v hcl hls (fun j qj hj hji hun=>?_) hr hy (ih _ _ _ hk)
    have hmem:(qj,j)∈qs.zipIdx:=by
     rw [HS];exact hj
    have:=hok.2 (qj,j) hmem
    simp only [Bq,beq_iff_eq] at this
    rcases this with (h|h)|h
    · exact absurd h hji
    · rw [hun] at h;cases h
    · exact h
  · simp only [AJ,beq_iff_eq,hqi,Ax,GR] at hok
    obtain ⟨hok,htm⟩:=hok
    refine ⟨fun h=>(by rw [h] at hr;cases hr),fun j hj=>?_⟩
    rw [hok] at hj
    simp only [BR] at hj
    subst hj
    exact ⟨_,hqi,Pd htm (fun u L' σ' hk=>ih _ _ _ hk) hx⟩
def Pl (P:Program) (N:Nat) (esc:List Nat) (pf:List FuncId) (order:List Nat) (ops:Array Oper):Option (List Q):=do
 let qs ← Eo P N esc ops (Da ops.size)
 if LO ops (JB ops.toList #[]) (qs.map (toP pf)) order (Bp ops.size false)&&order.length==ops.size then some (M2 (qs.map (toP pf)) order) else none
theorem I5 {ops:Array Oper} {esc:List Nat}:∀(l:List Nat) (qs:List Q),Eo P N esc ops l=some qs→qs.length=l.length
 |[],qs,h=>by simp only [Eo,AD] at h;subst h;rfl
 |j::l,qs,h=>by
  simp only [Eo,AE,AA] at h
  obtain ⟨o,ho,q,hq,qs',hqs,he⟩:=h
  cases he
  simp [I5 l qs' hqs]
theorem On {ops:Array Oper} {esc:List Nat} {pf:List FuncId} {order:List Nat} {qs:List Q} (hm:P.follows .mixedOrders=true) (hc:Pl P N esc pf order ops=some qs) {K:BX} (hx:Ai P K qs F L σ)
 (h:Ak base g lam Pr N F L σ a w0 w) {id:Nat}:(Code.region id ops true).wp P (fun e a' w'=>e= .normal∧Bz base Pr N w0 g w K a' w') a w:=by
 simp only [Pl,AE,AA] at hc
 obtain ⟨qs0,hq0,hc⟩:=hc
 split at hc
 case isFalse=>cases hc
 rename_i hp
 simp only [AJ,beq_iff_eq] at hp
 cases hc
 have hlen:=I5 _ _ hq0
 have hcl:De ops (Bp ops.size false):=by
  intro j o ho hj
  have:(Bp ops.size false).getD j false=false:=by
   simp only [BF,Array.getElem?_replicate];split<;>rfl
  rw [this] at hj;cases hj
 have hany:=Md (P:=P) (fun j i=>J1) (K:=K) (qs:=qs0.map (toP pf)) (by simpa using hlen) _ _ F L σ hp.1 hcl (by simp) hx
 rw [hp.2] at hany
 refine wp_region_any hm ?_
 have hdrew:Ak base g lam Pr N F L σ a w0 { w with drawn:=w.drawn+1}:=
  h.step (w':=w.drew) (Gh.le_refl g) (fun k b hb=>rfl) (h.rel.grow (w':=w.drew) (AP _) (fun _ _ _=>rfl) ((Below.refl base w).drew) (fun b hb=>⟨(h.rel.pr b hb).1,.inl hb⟩))
 exact II hq0 K _ _ base g lam Pr F L σ a w0 _ hany hdrew (fun a' w' hA=>⟨rfl,Bz.trans (Gh.le_refl g) ⟨AP _,fun _ _=>rfl⟩ hA⟩)
end Go.Ab
