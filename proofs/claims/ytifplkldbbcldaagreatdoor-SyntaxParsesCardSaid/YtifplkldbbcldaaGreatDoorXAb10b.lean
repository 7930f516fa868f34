/- Regions that draw their order: one order, chosen well, stands for all. Regions that draw their order, continued: whatever order the tape picks. Conditions: none. -/
import Derived.Test.YtifplkldbbcldaaGreatDoorXAb10
set_option linter.unusedSimpArgs false
set_option linter.unusedVariables false
set_option maxRecDepth 4000
set_option maxHeartbeats 8000000
open Option renaming map_some→Cf,bind_eq_bind→AU,bind_eq_some_iff→AF,getD_some→Rb
open List renaming mem_append→Bb,range→JD,getElem?_map→BC,getElem?_cons_succ→ZH,contains_iff_mem→B9,all_eq_true→A7,mem_zipIdx_iff_getElem?→Tf,mem_singleton→JC
open Bool renaming false_eq_true→AL,or_eq_true→CR,and_eq_true→AR,not_eq_true'→CZ
open Array renaming getD_eq_getD_getElem?→Cr,getElem?_eq_getElem→MQ,replicate→El
open Nat renaming lt_or_ge→Ea,le_refl→A4
open Option.some renaming injEq→AQ
namespace Go.Ab
open Go.RowKit
variable {P:Program} {base N:Nat} {g g':Gh} {Pr:Nat→Prop} {σ σ':AK} {w0 w w':World} {lam:Nat→Option Nat} {F:Fm} {L:Lm} {a:Act}
def isV:O→Bool
 | .box _ _| .al _ _| .st _ _ _| .msl _ _ _ _ _ _| .app _ _ _ _ _| .call _ _| .E2 _ _| .cF _ _ _ _ _| .trn _ _| .Jr _ _ _ _ _=>false
 | .ex k _=>k.pure
 |_=>true
def eQ:O→Bool
 | .ld _ _| .Xx _ _| .ldl _ _=>false
 |o=>isV o
def vM:O→Bool
 | .ldl _ _=>true
 |o=>eQ o
def gN:O→Bool
 | .st _ _ _=>false
 | .box _ sh| .al _ sh=>sh
 |_=>true
def YH:O→Bool
 | .box _ sh| .al _ sh=>sh
 |_=>true
def Pu:X→List Nat
 | .t n=>[n]
 | .c _=>[]
def kL (l:List X):List Nat:=l.flatMap Pu
def fG:Option X→List Nat
 |none=>[]
 |some x=>Pu x
def Jc:O→List Nat
 | .mv x| .fld x _| .ld x _| .len x| .Lp x| .un _ x| .conv _ x| .ext x _| .nck x| .box x _| .ldl x _| .fd x _ _| .nA _ x| .tT x=>Pu x
 | .ssl x lo hi=>Pu x++fG lo++fG hi
 | .sls x lo hi mx _=>Pu x++fG lo++fG hi++fG mx
 | .mm3 _ x y z=>Pu x++Pu y++Pu z
 | .nV _ _ x y=>Pu x++Pu y
 | .pick x y z=>Pu x++Pu y++Pu z
 | .ix x y _| .Oj x y| .bin _ x y| .tS _ x y| .mm _ x y| .st x y _| .msl _ _ _ _ x y| .app _ _ _ x y| .cF _ _ _ x y| .trn x y=>Pu x++Pu y
 | .bld _ ps| .bsl _ _ _ ps| .Jr _ _ _ _ ps=>ps.flatMap fun p=>Pu p.2.2
 | .mkf _ x y=>kL x++kL y
 | .al _ _=>[]
 | .call _ args| .Xx _ args| .ex _ args=>kL args
 | .E2 x args=>Pu x++kL args
def Q.looks (q:Q):List Nat:=Jc q.o++(match q.grd with|some (s,_)=>[s]|none=>[])
theorem BG {F F':Fm} {x:X} (h:∀s∈Pu x,F s=F' s):xv F x=xv F' x:=by
 cases x with
 |t n=>exact h n (by simp [Pu])
 |c v=>rfl
theorem Py {F F':Fm} {x:Option X} (h:∀s∈fG x,F s=F' s):x.map (xv F)=x.map (xv F'):=by
 cases x with
 |none=>rfl
 |some x=>simp only [Cf];rw [BG h]
theorem Gv {F F':Fm} {l:List X} (h:∀s∈kL l,F s=F' s):xvs F l=xvs F' l:=by
 unfold xvs
 refine List.map_congr_left fun x hx=>BG fun s hs=>h s ?_
 exact List.mem_flatMap.2 ⟨x,hx,hs⟩
theorem ON {F F':Fm}:∀(ps:List (Nat×Nat×X)) (z:List AV),(∀s∈ps.flatMap (fun p=>Pu p.2.2),F s=F' s)→Ip z F ps=Ip z F' ps
 |[],z,_=>rfl
 |(off,n,x)::ps,z,h=>by
  have e:xv F x=xv F' x:=BG fun s hs=>h s (by simp [hs])
  simp only [Ip,e]
  rw [ON ps _ (fun s hs=>h s (by simp only [List.flatMap_cons,Bb];exact .inr hs))]
theorem wQ {F F':Fm} {o:O} (h:∀s∈Jc o,F s=F' s):pv F L σ o=pv F' L σ o:=by
 cases o<;>simp only [Jc,Bb] at h<;>simp only [pv]<;>first
  |rw [BG h]
  |rw [BG (fun s hs=>h s (.inl (.inl (.inl hs)))),Py (fun s hs=>h s (.inl (.inl (.inr hs)))),Py (fun s hs=>h s (.inl (.inr hs))),Py (fun s hs=>h s (.inr hs))]
  |rw [BG (fun s hs=>h s (.inl (.inl hs))),Py (fun s hs=>h s (.inl (.inr hs))),Py (fun s hs=>h s (.inr hs))]
  |rw [BG (fun s hs=>h s (.inl hs)),BG (fun s hs=>h s (.inr hs))]
  |rw [BG (fun s hs=>h s (.inl (.inl hs))),BG (fun s hs=>h s (.inl (.inr hs))),BG (fun s hs=>h s (.inr hs))]
  |rw [ON _ _ h]
  |rw [Gv h]
  |rw [Gv (fun s hs=>h s (.inl hs)),Gv (fun s hs=>h s (.inr hs))]
  |rfl
theorem AAI {o:O} (h:eQ o=true) (L':Lm) (σ':AK):pv F L σ o=pv F L' σ' o:=by
 cases o<;>first|rfl|(cases h;done)
theorem ADK {o:O} (h:vM o=true) (σ':AK):pv F L σ o=pv F L σ' o:=by
 cases o<;>first|rfl|(cases h;done)
def Yv (P:Program) (F:Fm) (L:Lm) (σ:AK) (v:AV):O→Prop
 | .Xx f args=>(xvs F args).all AV.BL=true∧v.BL=true∧AP P f (xvs F args) σ (fun v' σ'=>v'=v∧σ'=σ)
 |o=>pv F L σ o=some v
theorem ZM {F F':Fm} {v:AV} {o:O} (h:∀s∈Jc o,F s=F' s) (hy:Yv P F L σ v o):Yv P F' L σ v o:=by
 cases o<;>first
  |(simp only [Yv] at hy ⊢;rw [← wQ h];exact hy)
  |(simp only [Yv,Jc] at *;rw [← Gv h];exact hy)
theorem yI {v:AV} {o:O} (h:eQ o=true) (L':Lm) (σ':AK) (hy:Yv P F L σ v o):Yv P F L' σ' v o:=by
 cases o<;>first|(cases h;done)|(simp only [Yv] at hy ⊢;rw [← AAI h L' σ'];exact hy)
theorem ACD {v:AV} {o:O} (h:vM o=true) (σ':AK) (hy:Yv P F L σ v o):Yv P F L σ' v o:=by
 cases o<;>first|(cases h;done)|(simp only [Yv] at hy ⊢;rw [← ADK h σ'];exact hy)
theorem qE {o:O} (h:isV o=true) (dst:Option Nat) (K:Cd):XO P dst K F L σ o↔∃v,Yv P F L σ v o∧K (At dst v F) L σ:=by
 cases o<;>try (cases h;done)
 case Xx f args=>
  simp only [XO,ZK,Yv]
  constructor
  · rintro ⟨h1,v,h2,h3⟩;exact ⟨v,⟨h1,h2⟩,h3⟩
  · rintro ⟨v,⟨h1,h2⟩,h3⟩;exact ⟨h1,v,h2,h3⟩
 case ex k xs=>
  have h:k.pure=true:=h
  simp only [XO,XEx,h,if_true,Yv,pv]
  constructor
  · intro hx
    obtain ⟨v,hv,hk⟩:=ZC hx
    exact ⟨v,hv,hk⟩
  · rintro ⟨v,hv,hk⟩
    rw [hv];exact hk
 all_goals
  simp only [XO,Yv]
  constructor
  · intro hx
    unfold XPv at hx
    split at hx
    · rename_i v hv;exact ⟨v,hv,hx⟩
    · exact hx.elim
  · rintro ⟨v,hv,hk⟩
    rw [hv];exact hk
def YQ (P:Program) (q:Q) (F:Fm) (L:Lm) (σ:AK) (v:AV):Prop:=XG (gd F q.grd) (Yv P F L σ v q.o) (v= .tup [])
theorem Zg {F F':Fm} {q:Q} (h:∀s∈q.looks,F s=F' s):gd F q.grd=gd F' q.grd:=by
 cases hg:q.grd with
 |none=>rfl
 |some gw=>
  obtain ⟨s,want⟩:=gw
  simp only [gd];rw [h s (by simp [Q.looks,hg])]
theorem ZL {F F':Fm} {q:Q} {v:AV} (h:∀s∈q.looks,F s=F' s) (hy:YQ P q F L σ v):YQ P q F' L σ v:=by
 have h1:∀s∈Jc q.o,F s=F' s:=fun s hs=>h s (by simp [Q.looks,hs])
 unfold YQ at hy ⊢
 rw [← Zg h]
 cases hc:gd F q.grd with
 |none=>rw [hc] at hy;exact hy.elim
 |some b=>rw [hc] at hy;cases b<;>first|exact hy|exact ZM h1 hy
theorem yH {q:Q} {v:AV} (h:eQ q.o=true) (L':Lm) (σ':AK) (hy:YQ P q F L σ v):YQ P q F L' σ' v:=by
 unfold YQ at hy ⊢
 cases hc:gd F q.grd with
 |none=>rw [hc] at hy;exact hy.elim
 |some b=>rw [hc] at hy;cases b<;>first|exact hy|exact yI h L' σ' hy
theorem ACC {q:Q} {v:AV} (h:vM q.o=true) (σ':AK) (hy:YQ P q F L σ v):YQ P q F L σ' v:=by
 unfold YQ at hy ⊢
 cases hc:gd F q.grd with
 |none=>rw [hc] at hy;exact hy.elim
 |some b=>rw [hc] at hy;cases b<;>first|exact hy|exact ACD h σ' hy
theorem tL {q:Q} (h:isV q.o=true) (K:Cd):XQ P q K F L σ↔∃v,YQ P q F L σ v∧K (At q.dst v F) L σ:=by
 unfold XQ YQ
 cases hc:gd F q.grd with
 |none=>exact ⟨fun hk=>hk.elim,fun ⟨_,hv,_⟩=>hv.elim⟩
 |some b=>
  cases b
  · exact ⟨fun hk=>⟨_,rfl,hk⟩,fun ⟨v,hv,hk⟩=>by have hv:v= .tup []:=hv;subst hv;exact hk⟩
  · exact qE h q.dst K
theorem yG {o:O} {dst:Option Nat} {K K':Cd} (htm:YH o=true) (hk:∀u L' σ',K (At dst u F) L' σ'→K' (At dst u F) L' σ') (hx:XO P dst K F L σ o):XO P dst K' F L σ o:=by
 have hF:dst=none→∀L' σ',K F L' σ'→K' F L' σ':=fun hd L' σ' h=>by have:=hk .undef L' σ';rw [hd] at this;exact this h
 by_cases hV:isV o=true
 · rw [qE hV] at hx ⊢
   obtain ⟨v,h1,h2⟩:=hx
   exact ⟨v,h1,hk _ _ _ h2⟩
 · cases o<;>simp only [isV,not_true_eq_false] at hV
   case box x sh=>
    simp only [XO,Th] at hx ⊢
    refine ⟨hx.1,?_⟩
    have hx:=hx.2
    cases dst with
    |none=>exact hx.elim
    |some d=>
     cases sh with
     |true=>exact fun i hi=>hk (.gp i 0) _ _ (hx i hi)
     |false=>cases htm
   case al z sh=>
    simp only [XO,Th] at hx ⊢
    refine ⟨hx.1,?_⟩
    have hx:=hx.2
    cases dst with
    |none=>exact hx.elim
    |some d=>
     cases sh with
     |true=>exact fun i hi=>hk (.gp i 0) _ _ (hx i hi)
     |false=>cases htm
   case st x v n=>
    simp only [XO,XSt] at hx ⊢
    obtain ⟨h1,h2,h3,h4⟩:=hx
    refine ⟨h1,h2,h3,?_⟩
    split at h4
    · exact hF h1 _ _ h4
    · exact h4.elim
   case msl e s b z l c=>
    obtain ⟨k,k',n,h1,h2,h3,h4,h5,h6⟩:=hx
    exact ⟨k,k',n,h1,h2,h3,h4,h5,fun i hi=>hk _ _ _ (h6 i hi)⟩
   case cF e s b x y=>
    obtain ⟨n,cs,σ1,srows,h1,h2,h3,h4,h5,h6,h7⟩:=hx
    exact ⟨n,cs,σ1,srows,h1,h2,h3,fun e=>hk _ _ _ (h4 e),h5,h6,fun e t ht=>hk _ _ _ (h7 e t ht)⟩
   case trn x y=>
    obtain ⟨k,s,e,cs,σ1,h1,h2⟩:=hx
    exact ⟨k,s,e,cs,σ1,h1,fun t ht=>hk _ _ _ (h2 t ht)⟩
   case Jr e s l z ps=>
    obtain ⟨cs,h1,h2⟩:=hx
    exact ⟨cs,h1,h2.imp (fun h2 t ht=>hk _ _ _ (h2 t ht)) fun ⟨ds,h3,h4,h5⟩=>⟨ds,h3,h4,fun t ht=>hk _ _ _ (h5 t ht)⟩⟩
   case app e s b x y=>
    rcases hx with ⟨rows,σ1,srows,h1,h2,h3,h4,h5,h6⟩|⟨rows,srows,h1,h2,h3,h4,h5,h6,h7⟩
    · exact .inl ⟨rows,σ1,srows,h1,h2,h3,h4,h5,fun t ht=>hk _ _ _ (h6 t ht)⟩
    · exact .inr ⟨rows,srows,h1,h2,h3,h4,h5,h6,hk _ _ _ h7⟩
   case call f args=>
    obtain ⟨h1,R,h2,h3⟩:=hx
    exact ⟨h1,R,h2,fun v σ' hv=>hk _ _ _ (h3 v σ' hv)⟩
   case E2 x args=>
    obtain ⟨f,first,caps,h0,hb,h1,R,h2,h3⟩:=hx
    exact ⟨f,first,caps,h0,hb,h1,R,h2,fun v σ' hv=>hk _ _ _ (h3 v σ' hv)⟩
   case ex k xs=>
    simp only [XO,XEx,hV,AL,if_false] at hx ⊢
    exact ⟨hx.1,hx.2.mono fun v σ' _ hv=>hk _ _ _ hv⟩
theorem oJ {q:Q} {K K':Cd} (htm:YH q.o=true) (hk:∀u L' σ',K (At q.dst u F) L' σ'→K' (At q.dst u F) L' σ') (hx:XQ P q K F L σ):XQ P q K' F L σ:=by
 unfold XQ at hx ⊢
 cases hc:gd F q.grd with
 |none=>rw [hc] at hx;exact hx.elim
 |some b=>rw [hc] at hx;cases b<;>first|exact hk _ _ _ hx|exact yG htm hk hx
theorem tK {o:O} {dst:Option Nat} {K K':Cd} (htm:gN o=true) (hk:∀u σ',K (At dst u F) L σ'→K' (At dst u F) L σ') (hx:XO P dst K F L σ o):XO P dst K' F L σ o:=by
 by_cases hV:isV o=true
 · rw [qE hV] at hx ⊢
   obtain ⟨v,h1,h2⟩:=hx
   exact ⟨v,h1,hk _ _ h2⟩
 · cases o<;>simp only [isV,not_true_eq_false] at hV
   case box x sh=>
    simp only [XO,Th] at hx ⊢
    refine ⟨hx.1,?_⟩
    have hx:=hx.2
    cases dst with
    |none=>exact hx.elim
    |some d=>
     cases sh with
     |true=>exact fun i hi=>hk (.gp i 0) _ (hx i hi)
     |false=>cases htm
   case al z sh=>
    simp only [XO,Th] at hx ⊢
    refine ⟨hx.1,?_⟩
    have hx:=hx.2
    cases dst with
    |none=>exact hx.elim
    |some d=>
     cases sh with
     |true=>exact fun i hi=>hk (.gp i 0) _ (hx i hi)
     |false=>cases htm
   case st x v n=>cases htm
   case msl e s b z l c=>
    obtain ⟨k,k',n,h1,h2,h3,h4,h5,h6⟩:=hx
    exact ⟨k,k',n,h1,h2,h3,h4,h5,fun i hi=>hk _ _ (h6 i hi)⟩
   case cF e s b x y=>
    obtain ⟨n,cs,σ1,srows,h1,h2,h3,h4,h5,h6,h7⟩:=hx
    exact ⟨n,cs,σ1,srows,h1,h2,h3,fun e=>hk _ _ (h4 e),h5,h6,fun e t ht=>hk _ _ (h7 e t ht)⟩
   case trn x y=>
    obtain ⟨k,s,e,cs,σ1,h1,h2⟩:=hx
    exact ⟨k,s,e,cs,σ1,h1,fun t ht=>hk _ _ (h2 t ht)⟩
   case Jr e s l z ps=>
    obtain ⟨cs,h1,h2⟩:=hx
    exact ⟨cs,h1,h2.imp (fun h2 t ht=>hk _ _ (h2 t ht)) fun ⟨ds,h3,h4,h5⟩=>⟨ds,h3,h4,fun t ht=>hk _ _ (h5 t ht)⟩⟩
   case app e s b x y=>
    rcases hx with ⟨rows,σ1,srows,h1,h2,h3,h4,h5,h6⟩|⟨rows,srows,h1,h2,h3,h4,h5,h6,h7⟩
    · exact .inl ⟨rows,σ1,srows,h1,h2,h3,h4,h5,fun t ht=>hk _ _ (h6 t ht)⟩
    · exact .inr ⟨rows,srows,h1,h2,h3,h4,h5,h6,hk _ _ h7⟩
   case call f args=>
    obtain ⟨h1,R,h2,h3⟩:=hx
    exact ⟨h1,R,h2,fun v σ' hv=>hk _ _ (h3 v σ' hv)⟩
   case E2 x args=>
    obtain ⟨f,first,caps,h0,hb,h1,R,h2,h3⟩:=hx
    exact ⟨f,first,caps,h0,hb,h1,R,h2,fun v σ' hv=>hk _ _ (h3 v σ' hv)⟩
   case ex k xs=>
    simp only [XO,XEx,hV,AL,if_false] at hx ⊢
    exact ⟨hx.1,hx.2.mono fun v σ' _ hv=>hk _ _ hv⟩
theorem tM {q:Q} {K K':Cd} (htm:gN q.o=true) (hk:∀u σ',K (At q.dst u F) L σ'→K' (At q.dst u F) L σ') (hx:XQ P q K F L σ):XQ P q K' F L σ:=by
 unfold XQ at hx ⊢
 cases hc:gd F q.grd with
 |none=>rw [hc] at hx;exact hx.elim
 |some b=>rw [hc] at hx;cases b<;>first|exact hk _ _ hx|exact tK htm hk hx
theorem XH {d e:Option Nat} (h:∀k,d=some k→e≠some k) (u v:AV) (F:Fm):At d u (At e v F)=At e v (At d u F):=by
 cases d with
 |none=>rfl
 |some d=>
  cases e with
  |none=>rfl
  |some e=>
   have hne:d≠e:=fun he=>h d rfl (he ▸ rfl)
   funext s
   simp only [At,put]
   by_cases h1:s=d<;>by_cases h2:s=e<;>simp [h1,h2]
   · omega
   · intro h3;exact absurd h3 hne
   · intro h3;exact absurd h3.symm hne
theorem gM {d:Option Nat} {s:Nat} (h:d≠some s) (v:AV) (F:Fm):At d v F s=F s:=by
 cases d with
 |none=>rfl
 |some d=>simp only [At,put];rw [if_neg];intro e;exact h (by rw [e])
theorem AB6 {o:O} {dst d:Option Nat} {v:AV} {K:Cd} (ht:YH o=true) (hl:∀s∈Jc o,d≠some s) (hd:∀k,dst=some k→d≠some k)
 (hx:XO P dst K (At d v F) L σ o):XO P dst (fun F L σ=>K (At d v F) L σ) F L σ o:=by
 have hc:∀u,At dst u (At d v F)=At d v (At dst u F):=fun u=>XH hd u v F
 have hF:∀s∈Jc o,At d v F s=F s:=fun s hs=>gM (hl s hs) v F
 by_cases hV:isV o=true
 · rw [qE hV] at hx ⊢
   obtain ⟨u,h1,h2⟩:=hx
   refine ⟨u,ZM hF h1,?_⟩
   show K (At d v (At dst u F)) L σ
   rw [← hc u];exact h2
 · cases o<;>simp only [isV,not_true_eq_false] at hV<;>simp only [Jc,Bb] at hF
   case box x sh=>
    cases sh<;>simp only [YH] at ht
    · cases ht
    simp only [XO,Th] at hx ⊢
    rw [← BG hF]
    refine ⟨hx.1,?_⟩
    have hx:=hx.2
    cases dst with
    |none=>exact hx.elim
    |some e=>exact fun i hi=>(by show K (At d v (At (some e) (.gp i 0) F)) _ _;rw [← hc (.gp i 0)];exact hx i hi)
   case al z sh=>
    cases sh<;>simp only [YH] at ht
    · cases ht
    simp only [XO,Th] at hx ⊢
    refine ⟨hx.1,?_⟩
    have hx:=hx.2
    cases dst with
    |none=>exact hx.elim
    |some e=>exact fun i hi=>(by show K (At d v (At (some e) (.gp i 0) F)) _ _;rw [← hc (.gp i 0)];exact hx i hi)
   case st x y n=>
    simp only [XO,XSt] at hx ⊢
    rw [← BG (fun s hs=>hF s (.inl hs)),← BG (fun s hs=>hF s (.inr hs))]
    obtain ⟨h1,h2,h3,h4⟩:=hx
    refine ⟨h1,h2,h3,?_⟩
    cases he:stA L σ (xv (At d v F) y).cells (xv (At d v F) x) with
    |none=>rw [he] at h4;exact h4.elim
    |some r=>obtain ⟨L',σ'⟩:=r;rw [he] at h4;exact h4
   case cF e s b x y=>
    obtain ⟨n,cs,σ1,srows,h1,h2,h3,h4,h5,h6,h7⟩:=hx
    refine ⟨n,cs,σ1,srows,by rw [← BG (fun s hs=>hF s (.inl hs))];exact h1,by rw [← BG (fun s hs=>hF s (.inr hs))];exact h2,h3,fun e=>?_,h5,h6,fun e t ht=>?_⟩
    · show K (At d v (At dst _ F)) _ _
      rw [← hc,← BG (fun s hs=>hF s (.inl hs))];exact h4 e
    · show K (At d v (At dst _ F)) _ _
      rw [← hc];exact h7 e t ht
   case trn x y=>
    obtain ⟨k,s,e,cs,σ1,h1,h2⟩:=hx
    refine ⟨k,s,e,cs,σ1,by rw [← BG (fun s hs=>hF s (.inl hs)),← BG (fun s hs=>hF s (.inr hs))];exact h1,fun t ht=>?_⟩
    show K (At d v (At dst _ F)) _ _
    rw [← hc];exact h2 t ht
   case Jr e s l z ps=>
    obtain ⟨cs,h1,h2⟩:=hx
    refine ⟨cs,by rw [← ON _ _ hF];exact h1,h2.imp (fun h2 t ht=>?_) fun ⟨ds,h3,h4,h5⟩=>⟨ds,h3,h4,fun t ht=>?_⟩⟩
    · show K (At d v (At dst _ F)) _ _
      rw [← hc];exact h2 t ht
    · show K (At d v (At dst _ F)) _ _
      rw [← hc];exact h5 t ht
   case msl e s b z l c=>
    obtain ⟨k,k',n,h1,h2,h3,h4,h5,h6⟩:=hx
    refine ⟨k,k',n,by rw [← BG (fun s hs=>hF s (.inl hs))];exact h1,by rw [← BG (fun s hs=>hF s (.inr hs))];exact h2,h3,h4,h5,fun i hi=>?_⟩
    show K (At d v (At dst _ F)) _ _
    rw [← hc];exact h6 i hi
   case app e s b x y=>
    rcases hx with ⟨rows,σ1,srows,h1,h2,h3,h4,h5,h6⟩|⟨rows,srows,h1,h2,h3,h4,h5,h6,h7⟩
    · refine .inl ⟨rows,σ1,srows,by rw [← BG (fun s hs=>hF s (.inl hs))];exact h1,by rw [← BG (fun s hs=>hF s (.inr hs))];exact h2,h3,h4,h5,fun t ht=>?_⟩
      show K (At d v (At dst _ F)) _ _
      rw [← hc];exact h6 t ht
    · refine .inr ⟨rows,srows,by rw [← BG (fun s hs=>hF s (.inl hs))];exact h1,by rw [← BG (fun s hs=>hF s (.inr hs))];exact h2,h3,h4,h5,h6,?_⟩
      show K (At d v (At dst _ F)) _ _
      rw [← hc];exact h7
   case call f args=>
    obtain ⟨h1,R,h2,h3⟩:=hx
    rw [Gv hF] at h1 h2
    refine ⟨h1,R,h2,fun u σ' hv=>?_⟩
    show K (At d v (At dst _ F)) _ _
    rw [← hc];exact h3 u σ' hv
   case E2 x args=>
    obtain ⟨f,first,caps,h0,hb,h1,R,h2,h3⟩:=hx
    rw [Gv (fun s hs=>hF s (.inr hs))] at h1 h2
    refine ⟨f,first,caps,by rw [← BG (fun s hs=>hF s (.inl hs))];exact h0,hb,h1,R,h2,fun u σ' hv=>?_⟩
    show K (At d v (At dst _ F)) _ _
    rw [← hc];exact h3 u σ' hv
   case ex k xs=>
    simp only [XO,XEx,hV,AL,if_false] at hx ⊢
    rw [Gv hF] at hx
    refine ⟨hx.1,hx.2.mono fun u σ' _ hv=>?_⟩
    show K (At d v (At dst _ F)) _ _
    rw [← hc];exact hv
theorem AB8 {q:Q} {d:Option Nat} {v:AV} {K:Cd} (ht:YH q.o=true) (hl:∀s∈q.looks,d≠some s) (hd:∀k,q.dst=some k→d≠some k)
 (hx:XQ P q K (At d v F) L σ):XQ P q (fun F L σ=>K (At d v F) L σ) F L σ:=by
 have h1:∀s∈Jc q.o,d≠some s:=fun s hs=>hl s (by simp [Q.looks,hs])
 unfold XQ at hx ⊢
 rw [Zg (F:=At d v F) (F':=F) (fun s hs=>gM (hl s hs) v F)] at hx
 cases hc:gd F q.grd with
 |none=>rw [hc] at hx;exact hx.elim
 |some b=>
  rw [hc] at hx
  cases b
  · have hx:K (At q.dst (.tup []) (At d v F)) L σ:=hx
    show K (At d v (At q.dst (.tup []) F)) L σ
    rw [← XH hd];exact hx
  · exact AB6 ht h1 hd hx
end Go.Ab
namespace Go.Ab
open Go.RowKit
variable {P:Program} {base N:Nat} {g g':Gh} {Pr:Nat→Prop} {σ σ':AK} {w0 w w':World} {lam:Nat→Option Nat} {F:Fm} {L:Lm} {a:Act}
def W6 (P:Program) (ops:Array Oper) (qs:List Q) (K:Cd):Nat→Array Bool→Cd
 |0,listed,F,L,σ=>Region.ready .any ops listed=[]∧K F L σ
 |fuel+1,listed,F,L,σ=>(Region.ready .any ops listed=[]→K F L σ)∧
  ∀i∈Region.ready .any ops listed,∃q,qs[i]?=some q∧XQ P q (W6 P ops qs K fuel (listed.setIfInBounds i true)) F L σ
def toP (pf:List FuncId) (q:Q):Q:=
 match q.o with
 | .call f args=>if pf.contains f then { q with o:= .Xx f args} else q
 |_=>q
theorem tB {pf:List FuncId} {q:Q} {K:Cd} (h:XQ P (toP pf q) K F L σ):XQ P q K F L σ:=by
 obtain ⟨dst,o,grd⟩:=q
 cases o<;>try exact h
 rename_i f args
 simp only [toP] at h
 split at h
 · unfold XQ at h ⊢
   simp only at h ⊢
   cases hc:gd F grd with
   |none=>rw [hc] at h;exact h.elim
   |some b=>
    rw [hc] at h
    cases b
    · exact h
    · obtain ⟨h1,v,⟨_,h2⟩,h3⟩:=h
      exact ⟨h1,_,h2,fun v' σ' ⟨e1,e2⟩=>by subst e1;subst e2;exact h3⟩
 · exact h
theorem dU {ops:Array Oper} {esc:List Nat}:∀(l:List Nat) (qs:List Q),NN P N esc ops l=some qs→∀(k i:Nat),l[k]?=some i→∃o q,ops[i]?=some o∧qs[k]?=some q∧oO P N esc ops o=some q
 |[],_,_,k,i,hk=>by simp at hk
 |j::l,qs,h,k,i,hk=>by
  simp only [NN,AU,AF] at h
  obtain ⟨o,ho,q,hq,qs',hqs,he⟩:=h
  cases he
  cases k with
  |zero=>simp at hk;subst hk;exact ⟨o,q,ho,rfl,hq⟩
  |succ k=>simpa using dU l qs' hqs k i (by simpa using hk)
theorem VV {ops:Array Oper} {esc:List Nat} {pf:List FuncId} {qs:List Q} (hc:NN P N esc ops (JD ops.size)=some qs) (K:Cd) {R:Exit→Act→World→Prop}:
 ∀(fuel:Nat) (listed:Array Bool) (base:Nat) (g:Gh) (lam:Nat→Option Nat) (Pr:Nat→Prop) (F:Fm) (L:Lm) (σ:AK) (a:Act) (w0 w:World),
  W6 P ops (qs.map (toP pf)) K fuel listed F L σ→B2 base g lam Pr N F L σ a w0 w→(∀a' w',FG base Pr N w0 g w K a' w'→R .normal a' w')→wpAny P .any ops R fuel listed a w
 |0,listed,base,g,lam,Pr,F,L,σ,a,w0,w,hx,h,hR=>⟨hx.1,hR _ _ ⟨g,lam,F,L,σ,Gh.le_refl g,KP.refl Pr w,h,hx.2⟩⟩
 |fuel+1,listed,base,g,lam,Pr,F,L,σ,a,w0,w,hx,h,hR=>by
  refine ⟨fun he=>hR _ _ ⟨g,lam,F,L,σ,Gh.le_refl g,KP.refl Pr w,h,hx.1 he⟩,fun i hi=>?_⟩
  obtain ⟨q',hq',hxq⟩:=hx.2 i hi
  have hlt:i < ops.size:=by
   have:=(List.mem_filter.1 hi).1
   simpa using this
  obtain ⟨o,q,ho,hq,hcq⟩:=dU (JD ops.size) qs hc i i (by simp [hlt])
  rw [BC,hq] at hq'
  cases hq'
  refine wpOp_mono ?_ (kR ho hcq (tB hxq) h)
  rintro a' w' ⟨g',lam',F',L',σ',h1,h2,h3,h4⟩
  exact VV hc K fuel _ base g' lam' Pr F' L' σ' a' w0 w' h4 h3 (fun a2 w2 hA=>hR _ _ (FG.trans h1 h2 hA))
inductive Anc (ops:Array Oper):Nat→Nat→Prop
 |one {j:Nat} {o:Oper} {e:Edge} (ho:ops[j]?=some o) (he:e∈o.after) (hb:Region.binds .any e=true):Anc ops j e.on
 |step {j i:Nat} {o:Oper} {e:Edge} (ho:ops[j]?=some o) (he:e∈o.after) (hb:Region.binds .any e=true) (h:Anc ops e.on i):Anc ops j i
def gD (acc:Array Nat) (l:List Edge):Nat:=l.foldl (fun s e=>if Region.binds .any e then s|||2 ^ e.on|||acc.getD e.on 0 else s) 0
def W8:List Oper→Array Nat→Array Nat
 |[],acc=>acc
 |o::l,acc=>W8 l (acc.push (gD acc o.after.toList))
def JI (ops:Array Oper) (listed:Array Bool):Prop:=
 ∀j o,ops[j]?=some o→listed.getD j false=true→∀e∈o.after,Region.binds .any e=true→listed.getD e.on false=true
theorem ZP {ops:Array Oper} {listed:Array Bool} (hc:JI ops listed) {j i:Nat} (h:Anc ops j i):(∀o,ops[j]?=some o→∀e∈o.after,Region.binds .any e=true→listed.getD e.on false=true)→listed.getD i false=true:=by
 induction h with
 |one ho he hb=>exact fun hj=>hj _ ho _ he hb
 |step ho he hb _ ih=>exact fun hj=>ih fun o' ho' e' he' hb'=>hc _ o' ho' (hj _ ho _ he hb) e' he' hb'
theorem Zu {ops:Array Oper} {acc:Array Nat} (hacc:∀k i,(acc.getD k 0).testBit i=true→Anc ops k i) {j:Nat} {o:Oper} (ho:ops[j]?=some o):
 ∀(l:List Edge) (s:Nat),(∀e∈l,e∈o.after)→(∀i,s.testBit i=true→Anc ops j i)→
  ∀i,(l.foldl (fun s e=>if Region.binds .any e then s|||2 ^ e.on|||acc.getD e.on 0 else s) s).testBit i=true→Anc ops j i
 |[],s,_,hs,i,hi=>hs i hi
 |e::l,s,hl,hs,i,hi=>by
  simp only [List.foldl_cons] at hi
  refine Zu hacc ho l _ (fun e he=>hl e (by simp [he])) ?_ i hi
  intro i' hi'
  by_cases hb:Region.binds .any e=true
  · simp only [hb,if_true,Nat.testBit_or,CR] at hi'
    rcases hi' with (h|h)|h
    · exact hs i' h
    · rw [Nat.testBit_two_pow] at h
      have:e.on=i':=by simpa using h
      exact this ▸ .one ho (hl e (by simp)) hb
    · exact .step ho (hl e (by simp)) hb (hacc _ _ h)
  · simp only [hb] at hi'
    exact hs i' hi'
theorem V2 {ops:Array Oper}:∀(l:List Oper) (acc:Array Nat),(∀k,l[k]?=ops[acc.size+k]?)→(∀k i,(acc.getD k 0).testBit i=true→Anc ops k i)→
 ∀k i,((W8 l acc).getD k 0).testBit i=true→Anc ops k i
 |[],acc,_,h=>h
 |o::l,acc,hl,h=>by
  have ho:ops[acc.size]?=some o:=by simpa using (hl 0).symm
  refine V2 l _ (fun k=>?_) (fun k i hi=>?_)
  · have:=hl (k+1)
    simp only [ZH] at this
    rw [this,Array.size_push];congr 1;omega
  · by_cases e:k=acc.size
    · subst e
      have:(acc.push (gD acc o.after.toList)).getD acc.size 0=gD acc o.after.toList:=by simp
      rw [this] at hi
      exact Zu h ho o.after.toList 0 (fun e he=>by simpa using he) (fun i hi=>by simp at hi) i hi
    · have:(acc.push (gD acc o.after.toList)).getD k 0=acc.getD k 0:=by
       simp only [Cr,Array.getElem?_push,e,if_false]
      rw [this] at hi
      exact h k i hi
theorem X9 {ops:Array Oper} {j i:Nat} (h:((W8 ops.toList #[]).getD j 0).testBit i=true):Anc ops j i:=
 V2 ops.toList #[] (fun k=>by simp) (fun k i hi=>by simp at hi) j i h
theorem Kr {ops:Array Oper} {listed:Array Bool} {i:Nat}:i∈Region.ready .any ops listed↔i < ops.size∧listed.getD i true=false∧∃o,ops[i]?=some o∧∀e∈o.after,Region.binds .any e=true→listed.getD e.on false=true:=by
 unfold Region.ready
 simp only [List.mem_filter,List.mem_range,AR,CZ]
 constructor
 · rintro ⟨h1,h2,h3⟩
   refine ⟨h1,h2,?_⟩
   cases ho:ops[i]? with
   |none=>simp [ho] at h3
   |some o=>
    refine ⟨o,rfl,fun e he hb=>?_⟩
    simp only [ho,Cf,Rb,Array.all_eq_true'] at h3
    have:=h3 e he
    simpa [hb] using this
 · rintro ⟨h1,h2,o,ho,h3⟩
   refine ⟨h1,h2,?_⟩
   simp only [ho,Cf,Rb,Array.all_eq_true']
   intro e he
   by_cases hb:Region.binds .any e=true
   · simp [h3 e he hb]
   · simp [hb]
theorem Ue {listed:Array Bool} {i:Nat} (h:i < listed.size) (d:Bool):(listed.setIfInBounds i true).getD i d=true:=by simp [h]
theorem Ja {listed:Array Bool} {i j:Nat} (h:i≠j) (d:Bool):(listed.setIfInBounds i true).getD j d=listed.getD j d:=by
 simp [Array.getElem?_setIfInBounds_ne h]
theorem Wl {listed:Array Bool} {i j:Nat} (h:listed.getD j false=true):(listed.setIfInBounds i true).getD j false=true:=by
 by_cases e:i=j
 · subst e
   have:i < listed.size:=by
    rcases Ea i listed.size with h1|h1
    · exact h1
    · simp [h1] at h
   exact Ue this false
 · rw [Ja e];exact h
theorem JI.set {ops:Array Oper} {listed:Array Bool} (hc:JI ops listed) {i:Nat} (hi:i∈Region.ready .any ops listed):JI ops (listed.setIfInBounds i true):=by
 intro j o ho hj e he hb
 by_cases e':i=j
 · subst e'
   obtain ⟨_,_,o',ho',hall⟩:=Kr.1 hi
   rw [ho] at ho';cases ho'
   exact Wl (hall e he hb)
 · rw [Ja e'] at hj
   exact Wl (hc j o ho hj e he hb)
theorem P2 {ops:Array Oper} {listed:Array Bool} {i j:Nat} (hj:j∈Region.ready .any ops listed) (hne:i≠j):j∈Region.ready .any ops (listed.setIfInBounds i true):=by
 obtain ⟨h1,h2,o,ho,h3⟩:=Kr.1 hj
 exact Kr.2 ⟨h1,by rw [Ja hne];exact h2,o,ho,fun e he hb=>Wl (h3 e he hb)⟩
def kV (x y:Q):Bool:=
 (match x.dst with|some d=>!y.looks.contains d&&y.dst != some d|none=>true)&&(match y.dst with|some d=>!x.looks.contains d|none=>true)
theorem hZ {x y:Q} (h:kV x y=true):(∀s∈y.looks,x.dst≠some s)∧(∀k,y.dst=some k→x.dst≠some k)∧(∀s∈x.looks,y.dst≠some s):=by
 unfold kV at h
 simp only [AR] at h
 refine ⟨fun s hs he=>?_,fun k hk he=>?_,fun s hs he=>?_⟩
 · rw [he] at h;simp [hs] at h
 · rw [he,hk] at h;simp at h
 · rw [he] at h;simp [hs] at h
def before (tab:Array Nat) (i j:Nat) (qi qj:Q):Bool:=(tab.getD j 0).testBit i||(kV qi qj&&YH qj.o&&(isV qj.o||eQ qi.o||(vM qi.o&&gN qj.o)))
theorem b9 {ops:Array Oper} {tab:Array Nat} (htab:∀j i,(tab.getD j 0).testBit i=true→Anc ops j i) {qs:List Q} {K:Cd} {i:Nat} {qi:Q} (hi:qs[i]?=some qi) (hV:isV qi.o=true):
 ∀(fuel:Nat) (listed:Array Bool) (F:Fm) (L:Lm) (σ:AK) (v:AV),JI ops listed→listed.size=ops.size→
  (∀j qj,qs[j]?=some qj→j≠i→listed.getD j true=false→before tab i j qi qj=true)→
  i∈Region.ready .any ops listed→YQ P qi F L σ v→W6 P ops qs K fuel (listed.setIfInBounds i true) (At qi.dst v F) L σ→W6 P ops qs K (fuel+1) listed F L σ:=by
 intro fuel
 induction fuel with
 |zero=>
  intro listed F L σ v hcl hsz hb hr hy H
  refine ⟨fun h=>(by rw [h] at hr;cases hr),fun j hj=>?_⟩
  by_cases hji:i=j
  · subst hji;exact ⟨qi,hi,(tL hV _).2 ⟨v,hy,H⟩⟩
  · have:=P2 hj hji
    rw [H.1] at this;cases this
 |succ fuel ih=>
  intro listed F L σ v hcl hsz hb hr hy H
  refine ⟨fun h=>(by rw [h] at hr;cases hr),fun j hj=>?_⟩
  by_cases hji:i=j
  · subst hji;exact ⟨qi,hi,(tL hV _).2 ⟨v,hy,H⟩⟩
  · obtain ⟨qj,hqj,hxj⟩:=H.2 j (P2 hj hji)
    obtain ⟨hjlt,hjun,oj,hoj,hjall⟩:=Kr.1 hj
    have hbj:=hb j qj hqj (Ne.symm hji) hjun
    have hiun:=(Kr.1 hr).2.1
    have hilt:=(Kr.1 hr).1
    unfold before at hbj
    simp only [CR,AR] at hbj
    rcases hbj with hanc|⟨⟨hap,htame⟩,hcls⟩
    · have h1:=ZP hcl (htab j i hanc) (fun o ho=>by rw [hoj] at ho;cases ho;exact hjall)
      rw [Cr,MQ (by omega)] at h1 hiun
      simp at h1 hiun
      rw [h1] at hiun;cases hiun
    · obtain ⟨a1,a2,a3⟩:=hZ hap
      refine ⟨qj,hqj,?_⟩
      have hxj':=AB8 htame a1 a2 hxj
      have hcl':=hcl.set hj
      have hr':i∈Region.ready .any ops (listed.setIfInBounds j true):=P2 hr (Ne.symm hji)
      have hb':∀k qk,qs[k]?=some qk→k≠i→(listed.setIfInBounds j true).getD k true=false→before tab i k qi qk=true:=fun k qk hk hki hun=>by
       by_cases e:j=k
       · subst e;rw [Ue (by omega)] at hun;cases hun
       · rw [Ja e] at hun;exact hb k qk hk hki hun
      have hcomm:(listed.setIfInBounds i true).setIfInBounds j true=(listed.setIfInBounds j true).setIfInBounds i true:=Array.setIfInBounds_comm _ _ hji
      have hlook:∀u,∀s∈qi.looks,F s=At qj.dst u F s:=fun u s hs=>(gM (a3 s hs) u F).symm
      by_cases hVj:isV qj.o=true
      · rw [tL hVj] at hxj' ⊢
        obtain ⟨u,hu,hk⟩:=hxj'
        refine ⟨u,hu,ih _ _ _ _ v hcl' (by simpa using hsz) hb' hr' (ZL (hlook u) hy) ?_⟩
        rw [← hcomm];exact hk
      · have hcls':eQ qi.o=true∨(vM qi.o=true∧gN qj.o=true):=by
         rcases hcls with (h1|h1)|h1
         · exact absurd h1 hVj
         · exact .inl h1
         · exact .inr h1
        rcases hcls' with hp|hp
        case inr=>
         refine tM hp.2 (fun u σ' hk=>?_) hxj'
         refine ih _ _ _ _ v hcl' (by simpa using hsz) hb' hr' (ACC hp.1 σ' (ZL (hlook u) hy)) ?_
         rw [← hcomm];exact hk
        refine oJ htame (fun u L' σ' hk=>?_) hxj'
        refine ih _ _ _ _ v hcl' (by simpa using hsz) hb' hr' (yH hp L' σ' (ZL (hlook u) hy)) ?_
        rw [← hcomm];exact hk
def Yp (tab:Array Nat) (qs:List Q) (listed:Array Bool) (i:Nat):Bool:=
 match qs[i]? with
 |some qi=>isV qi.o&&(qs.zipIdx.all fun (qj,j)=>j==i||listed.getD j true||before tab i j qi qj)
 |none=>false
def aB (ops:Array Oper) (tab:Array Nat) (qs:List Q):List Nat→Array Bool→Bool
 |[],listed=>(Region.ready .any ops listed).isEmpty
 |i::rest,listed=>(Region.ready .any ops listed).contains i&&(Yp tab qs listed i||(Region.ready .any ops listed==[i]&&((qs[i]?).map fun q=>YH q.o).getD false))&&aB ops tab qs rest (listed.setIfInBounds i true)
def eL (qs:List Q) (order:List Nat):List Q:=order.filterMap (qs[·]?)
theorem fL {ops:Array Oper} {tab:Array Nat} (htab:∀j i,(tab.getD j 0).testBit i=true→Anc ops j i) {qs:List Q} {K:Cd} (hsz:qs.length=ops.size):∀(order:List Nat) (listed:Array Bool) (F:Fm) (L:Lm) (σ:AK),aB ops tab qs order listed=true→JI ops listed→listed.size=ops.size→
 BN P K (eL qs order) F L σ→W6 P ops qs K order.length listed F L σ
 |[],listed,F,L,σ,hp,_,_,hx=>⟨by simpa [aB] using hp,hx⟩
 |i::rest,listed,F,L,σ,hp,hcl,hls,hx=>by
  simp only [aB,AR,CR,B9] at hp
  obtain ⟨⟨hr,hok⟩,hrest⟩:=hp
  have hilt:=(Kr.1 hr).1
  have hqi:qs[i]?=some qs[i]:=by simp
  have hpk:eL qs (i::rest)=qs[i]::eL qs rest:=by unfold eL;rw [List.filterMap_cons,hqi]
  rw [hpk] at hx
  have hx:XQ P qs[i] (BN P K (eL qs rest)) F L σ:=hx
  have ih:=fun F L σ=>fL htab (K:=K) hsz rest (listed.setIfInBounds i true) F L σ hrest (hcl.set hr) (by simpa using hls)
  rcases hok with hok|hok
  · unfold Yp at hok
    rw [hqi] at hok
    simp only [AR,A7] at hok
    obtain ⟨v,hy,hk⟩:=(tL hok.1 _).1 hx
    refine b9 htab hqi hok.1 rest.length listed F L σ v hcl hls (fun j qj hj hji hun=>?_) hr hy (ih _ _ _ hk)
    have hmem:(qj,j)∈qs.zipIdx:=by
     rw [Tf];exact hj
    have:=hok.2 (qj,j) hmem
    simp only [CR,beq_iff_eq] at this
    rcases this with (h|h)|h
    · exact absurd h hji
    · rw [hun] at h;cases h
    · exact h
  · simp only [AR,beq_iff_eq,hqi,Cf,Rb] at hok
    obtain ⟨hok,htm⟩:=hok
    refine ⟨fun h=>(by rw [h] at hr;cases hr),fun j hj=>?_⟩
    rw [hok] at hj
    simp only [JC] at hj
    subst hj
    exact ⟨_,hqi,oJ htm (fun u L' σ' hk=>ih _ _ _ hk) hx⟩
def oN (P:Program) (N:Nat) (esc:List Nat) (pf:List FuncId) (order:List Nat) (ops:Array Oper):Option (List Q):=do
 let qs ← NN P N esc ops (JD ops.size)
 if aB ops (W8 ops.toList #[]) (qs.map (toP pf)) order (El ops.size false)&&order.length==ops.size then some (eL (qs.map (toP pf)) order) else none
theorem Vf {ops:Array Oper} {esc:List Nat}:∀(l:List Nat) (qs:List Q),NN P N esc ops l=some qs→qs.length=l.length
 |[],qs,h=>by simp only [NN,AQ] at h;subst h;rfl
 |j::l,qs,h=>by
  simp only [NN,AU,AF] at h
  obtain ⟨o,ho,q,hq,qs',hqs,he⟩:=h
  cases he
  simp [Vf l qs' hqs]
theorem lP {ops:Array Oper} {esc:List Nat} {pf:List FuncId} {order:List Nat} {qs:List Q} (hm:P.follows .mixedOrders=true) (hc:oN P N esc pf order ops=some qs) {K:Cd} (hx:BN P K qs F L σ)
 (h:B2 base g lam Pr N F L σ a w0 w) {id:Nat}:(Code.region id ops true).wp P (fun e a' w'=>e= .normal∧FG base Pr N w0 g w K a' w') a w:=by
 simp only [oN,AU,AF] at hc
 obtain ⟨qs0,hq0,hc⟩:=hc
 split at hc
 case isFalse=>cases hc
 rename_i hp
 simp only [AR,beq_iff_eq] at hp
 cases hc
 have hlen:=Vf _ _ hq0
 have hcl:JI ops (El ops.size false):=by
  intro j o ho hj
  have:(El ops.size false).getD j false=false:=by
   simp only [Cr,Array.getElem?_replicate];split<;>rfl
  rw [this] at hj;cases hj
 have hany:=fL (P:=P) (fun j i=>X9) (K:=K) (qs:=qs0.map (toP pf)) (by simpa using hlen) _ _ F L σ hp.1 hcl (by simp) hx
 rw [hp.2] at hany
 refine wp_region_any hm ?_
 have hdrew:B2 base g lam Pr N F L σ a w0 { w with drawn:=w.drawn+1}:=
  h.step (w':=w.drew) (Gh.le_refl g) (fun k b hb=>rfl) (h.rel.grow (w':=w.drew) (A4 _) (fun _ _ _=>rfl) ((Below.refl base w).drew) (fun b hb=>⟨(h.rel.pr b hb).1,.inl hb⟩))
 exact VV hq0 K _ _ base g lam Pr F L σ a w0 _ hany hdrew (fun a' w' hA=>⟨rfl,FG.trans (Gh.le_refl g) ⟨A4 _,fun _ _=>rfl⟩ hA⟩)
end Go.Ab
