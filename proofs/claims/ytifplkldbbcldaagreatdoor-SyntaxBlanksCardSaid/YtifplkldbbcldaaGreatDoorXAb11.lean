/- Compact code, its runs at the abstract level, and contracts out of runs. Equations that run compact code at the abstract level. Conditions: none. -/
import Derived.Scope
import Derived.Test.YtifplkldbbcldaaGreatDoorXAb10d
set_option linter.unusedSimpArgs false
set_option linter.unusedVariables false
set_option maxRecDepth 4000
set_option maxHeartbeats 8000000
open List renaming range→Hz,all_cons→Bk,getD_eq_getElem?_getD→Su,getElem?_eq_some_iff→A8,mem_cons→Bm,all_nil→K9,replicate→Aj,getElem_of_mem→CY,getElem?_eq_getElem→Ap,mem_of_getElem?→Ah
open Option.some renaming injEq→AP
open Prod.mk renaming injEq→BH
open Option renaming getD_some→PV,map_eq_some_iff→AJ,bind_eq_some_iff→AB,bind_eq_bind→AS,map_some→CR
open Go renaming undef→C0
open Bool renaming and_eq_true→AK,false_eq_true→AY
open Nat renaming le_refl→A7,mul_le_mul→NR,zero_le→CC,le_trans→Az
open Array renaming replicate→EZ,getD_eq_getD_getElem?→CZ
namespace Go.Ab
open Go.RowKit
inductive C where
 |skip
 |reg (ops:List Q) (live:List Nat)
 |Qi (t:QT) (live:List Nat)
 |seq (x y:C)
 |cond (x:X) (t e:C)
 |block (id:Nat) (c:C)
 |loop (c:C)
 |exit (id:Nat)
 |ret
 |scope (c:C)
 |bad
inductive CI where
 |code (c:C)
 |blk (id:Nat)
 |scp
 |again (c:C)
def bU (P:Program) (N:Nat) (esc:List Nat) (pf:List FuncId) (live:List Nat) (pt:PT) (ops:Array Oper):Option C:=
 match pt with
 | .done=>(eM P N esc pf (Hz ops.size) ops).map fun q=>.reg q live
 |pt=>(Vs P N esc pf pt ops).map fun t=>match lin t with
  |some q=>.reg q live
  |none=>.Qi t live
def GZ (P:Program) (N:Nat) (esc:List Nat) (pf:List FuncId):Code→List (List Nat×PT)→Option (C×List (List Nat×PT))
 | .skip,ct=>some (.skip,ct)
 | .region _ ops false,(live,_)::ct=>some (((Ls P N esc ops (Hz ops.size)).map fun q=>C.reg q live).getD .bad,ct)
 | .region _ ops true,(live,pt)::ct=>some ((bU P N esc pf live pt ops).getD .bad,ct)
 | .seq x y,ct=>(GZ P N esc pf x ct).bind fun r=>(GZ P N esc pf y r.2).map fun r'=>(.seq r.1 r'.1,r'.2)
 | .cond c t e,ct=>(xo c).bind fun c'=>(GZ P N esc pf t ct).bind fun r=>(GZ P N esc pf e r.2).map fun r'=>(.cond c' r.1 r'.1,r'.2)
 | .block id c,ct=>(GZ P N esc pf c ct).map fun r=>(.block id r.1,r.2)
 | .loop c,ct=>(GZ P N esc pf c ct).map fun r=>(.loop r.1,r.2)
 | .exit id,ct=>some (.exit id,ct)
 | .ret,ct=>some (.ret,ct)
 | .scope c,ct=>(GZ P N esc pf c ct).map fun r=>(.scope r.1,r.2)
 | .label _,ct=>some (.skip,ct)
 |_,_=>none
inductive RV where
 |t (n:Nat)
 |c (n:Nat) (k:Option Nat)
def Ui (P:Program):List ResultVar→Option (List RV)
 |[]=>some []
 | .tmp n::l=>do some (.t n::(← Ui P l))
 | .cell n t::l=>do
  let k ← ldN P t
  some (.c n k::(← Ui P l))
def rvA (F:Fm) (L:Lm) (σ:AN):RV→Option AV
 | .t n=>some (F n)
 | .c n k=>ldA L σ (F n) k
def dG (F:Fm) (L:Lm) (σ:AN):List RV→Option (List AV)
 |[]=>some []
 |r::l=>do some ((← rvA F L σ r)::(← dG F L σ l))
def Yx (F:Fm) (L:Lm) (σ:AN) (rs:List RV):Option AV:=
 (dG F L σ rs).bind fun vs=>if vs.all AV.At then (match vs with|[v]=>some v|vs=>some (.tup vs)) else none
def WL (ks:List Nat) (F:Fm):Fm:=fun s=>if s∈ks then F s else .undef
def TW (ks:List Nat) (L:Lm):Lm:=fun s=>if s∈ks then L s else none
variable {P:Program} {base N:Nat} {g g':Gh} {Pr:Nat→Prop} {σ σ':AN} {w0 w w':World} {lam:Nat→Option Nat} {F F':Fm} {L L':Lm} {a:Act}
theorem BR.dZ (h:BR base g lam Pr N F L σ a w0 w) (hF:∀s,F' s=F s∨F' s= .undef) (hL:∀k cs,L' k=some cs→L k=some cs) (hσ:σ'.le σ):BR base g lam Pr N F' L' σ' a w0 w:=by
 refine ⟨fun s=>?_,h.sz,h.df,fun k cs hk=>h.loc k cs (hL k cs hk),h.inj,h.npr,h.rel.less hσ⟩
 rcases hF s with e|e
 · rw [e];exact h.tm s
 · rw [e];exact VR.undef
theorem BR.kept (h:BR base g lam Pr N F L σ a w0 w) (ks:List Nat):BR base g lam Pr N (WL ks F) (TW ks L) σ a w0 w:=
 h.dZ (fun s=>by simp only [WL];split<;>simp) (fun k cs hk=>by simp only [TW] at hk;split at hk<;>simp_all) (AN.le_refl σ)
structure Cx where
 P:Program
 f:FuncId
 fn:Func
 N:Nat
 esc:List Nat
 pf:List FuncId
 rs:List RV
def RC (cx:Cx):C→Code→Prop
 | .skip,k=>k= .skip∨∃l,k= .label l
 | .scope c,k=>∃p,k= .scope p∧RC cx c p
 | .reg ops _,k=>∃id arr,(k= .region id arr false∧Ls cx.P cx.N cx.esc arr (Hz arr.size)=some ops)∨(k= .region id arr true∧∃order,eM cx.P cx.N cx.esc cx.pf order arr=some ops)∨(k= .region id arr true∧∃pt t,Vs cx.P cx.N cx.esc cx.pf pt arr=some t∧lin t=some ops)
 | .Qi t _,k=>∃id arr pt,k= .region id arr true∧Vs cx.P cx.N cx.esc cx.pf pt arr=some t
 | .seq x y,k=>∃p q,k= .seq p q∧RC cx x p∧RC cx y q
 | .cond x t e,k=>∃c p q,k= .cond c p q∧xo c=some x∧RC cx t p∧RC cx e q
 | .block id c,k=>∃p,k= .block id p∧RC cx c p
 | .loop c,k=>∃p,k= .loop p∧RC cx c p
 | .exit id,k=>k= .exit id
 | .ret,k=>k= .ret
 | .bad,_=>True
theorem AZ (cx:Cx):∀(k:Code) (ct:List (List Nat×PT)) (c:C) (ct':List (List Nat×PT)),GZ cx.P cx.N cx.esc cx.pf k ct=some (c,ct')→RC cx c k
 | .skip,ct,c,ct',h=>by simp only [GZ,AP,BH] at h;rw [← h.1];exact .inl rfl
 | .region id ops dr,ct,c,ct',h=>by
  cases ct with
  |nil=>cases dr<;>simp only [GZ] at h<;>cases h
  |cons lo ct=>
   obtain ⟨live,order⟩:=lo
   cases dr
   · simp only [GZ,AP,BH] at h
     obtain ⟨rfl,_⟩:=h
     cases hq:Ls cx.P cx.N cx.esc ops (Hz ops.size) with
     |none=>exact trivial
     |some qs=>exact ⟨id,ops,.inl ⟨rfl,hq⟩⟩
   · simp only [GZ,AP,BH] at h
     obtain ⟨rfl,_⟩:=h
     cases hq:bU cx.P cx.N cx.esc cx.pf live order ops with
     |none=>exact trivial
     |some c'=>
     simp only [PV]
     unfold bU at hq
     split at hq
     · simp only [AJ] at hq
       obtain ⟨qs,hq',rfl⟩:=hq
       exact ⟨id,ops,.inr (.inl ⟨rfl,_,hq'⟩)⟩
     · simp only [AJ] at hq
       obtain ⟨t,ht,rfl⟩:=hq
       cases hl:lin t with
       |some q=>exact ⟨id,ops,.inr (.inr ⟨rfl,_,t,ht,hl⟩)⟩
       |none=>exact ⟨id,ops,_,rfl,ht⟩
 | .seq x y,ct,c,ct',h=>by
  simp only [GZ,AB,AJ,BH] at h
  obtain ⟨⟨x',c1⟩,hx,⟨y',c2⟩,hy,rfl,_⟩:=h
  exact ⟨x,y,rfl,AZ cx x _ _ _ hx,AZ cx y _ _ _ hy⟩
 | .cond c t e,ct,c2,ct',h=>by
  simp only [GZ,AB,AJ,BH] at h
  obtain ⟨x,hx,⟨t',c1⟩,ht,⟨e',c3⟩,he,rfl,_⟩:=h
  exact ⟨c,t,e,rfl,hx,AZ cx t _ _ _ ht,AZ cx e _ _ _ he⟩
 | .block id p,ct,c,ct',h=>by
  simp only [GZ,AJ,BH] at h
  obtain ⟨⟨c',c1⟩,hc,rfl,_⟩:=h
  exact ⟨p,rfl,AZ cx p _ _ _ hc⟩
 | .loop p,ct,c,ct',h=>by
  simp only [GZ,AJ,BH] at h
  obtain ⟨⟨c',c1⟩,hc,rfl,_⟩:=h
  exact ⟨p,rfl,AZ cx p _ _ _ hc⟩
 | .exit id,ct,c,ct',h=>by simp only [GZ,AP,BH] at h;rw [← h.1];rfl
 | .ret,ct,c,ct',h=>by simp only [GZ,AP,BH] at h;rw [← h.1];rfl
 | .rangeFunc ..,ct,c,ct',h=>by simp only [GZ] at h;cases h
 | .scope p,ct,c,ct',h=>by
  simp only [GZ,AJ,BH] at h
  obtain ⟨⟨c',c1⟩,hc,rfl,_⟩:=h
  exact ⟨p,rfl,AZ cx p _ _ _ hc⟩
 | .label l,ct,c,ct',h=>by simp only [GZ,AP,BH] at h;rw [← h.1];exact .inr ⟨l,rfl⟩
 | .goto _,ct,c,ct',h=>by simp only [GZ] at h;cases h
 | .refuse _,ct,c,ct',h=>by simp only [GZ] at h;cases h
def RI (cx:Cx):CI→Item→Prop
 | .code c,y=>∃k,y= .code k∧RC cx c k
 | .blk id,y=>y= .inBlock id
 | .scp,y=>∃k,y= .inScope k
 | .again c,y=>∃k,y= .inLoop k∧RC cx c k
inductive RIs (cx:Cx):List CI→List Item→Prop
 |nil:RIs cx [] []
 |cons {x:CI} {y:Item} {xs:List CI} {ys:List Item} (h:RI cx x y) (hs:RIs cx xs ys):RIs cx (x::xs) (y::ys)
def Good (cx:Cx):Prop:=cx.P.funcs[cx.f]?=some cx.fn∧Ui cx.P cx.fn.results.toList=some cx.rs
def Run (cx:Cx) (K:AV→AN→Prop) (todo:List CI) (F:Fm) (L:Lm) (σ:AN):Prop:=
 ∀(items:List Item) (base:Nat) (g:Gh) (lam:Nat→Option Nat) (Pr:Nat→Prop) (a:Act) (w0 w:World) (b:Frame) (cs:List Frame),
  RIs cx todo items→BR base g lam Pr cx.N F L σ a w0 w→b.fn=cx.f→b.kind= .normal→
  ∃v w' fr,Steps cx.P (lone (b.at a items) cs w) (lone fr cs w')∧fr.fn=cx.f∧fr.leaving cx.P w' (.returned v)∧
   ∃av g' σ',VR g' av v∧Rel base g' Pr σ' w0 w'∧g.le g'∧KP Pr w w'∧K av σ'
variable {cx:Cx} {K:AV→AN→Prop} {k:List CI}
theorem Run.dZ (hF:∀s,F' s=F s∨F' s= .undef) (hL:∀k cs,L' k=some cs→L k=some cs) (hσ:σ'.le σ) (h:Run cx K k F' L' σ'):Run cx K k F L σ:=
 fun items base g lam Pr a w0 w b cs hi hf hb hk=>h items base g lam Pr a w0 w b cs hi (hf.dZ hF hL hσ) hb hk
theorem Run.L4 {k':List CI}
 (hs:∀items,RIs cx k items→∃items',RIs cx k' items'∧∀(b:Frame) (a:Act) (cs:List Frame) (w:World),step cx.P (lone (b.at a items) cs w)= .next (lone (b.at a items') cs w))
 (h:Run cx K k' F L σ):Run cx K k F L σ:=by
 intro items base g lam Pr a w0 w b cs hi hf hb hk
 obtain ⟨items',hi',hst⟩:=hs items hi
 obtain ⟨v,w',fr,hss,rest⟩:=h items' base g lam Pr a w0 w b cs hi' hf hb hk
 exact ⟨v,w',fr,.head (hst b a cs w) hss,rest⟩
theorem RIs.code {c:C} {items:List Item} (h:RIs cx (.code c::k) items):∃p ys,items= .code p::ys∧RC cx c p∧RIs cx k ys:=by
 cases h with
 |cons hy hys=>obtain ⟨p,rfl,hp⟩:=hy;exact ⟨p,_,rfl,hp,hys⟩
theorem RIs.L3 {c:C} {p:Code} {ys:List Item} (hc:RC cx c p) (h:RIs cx k ys):RIs cx (.code c::k) (.code p::ys):= .cons ⟨p,rfl,hc⟩ h
theorem Run.skip (h:Run cx K k F L σ):Run cx K (.code .skip::k) F L σ:=
 h.L4 fun items hi=>by
  obtain ⟨p,ys,rfl,hp,hys⟩:=hi.code
  rcases hp with rfl|⟨l,rfl⟩
  · exact ⟨ys,hys,fun b a cs w=>step_skip⟩
  · exact ⟨ys,hys,fun b a cs w=>step_label⟩
theorem Run.scope {c:C} (h:Run cx K (.code c::.scp::k) F L σ):Run cx K (.code (.scope c)::k) F L σ:=
 h.L4 fun items hi=>by
  obtain ⟨p,ys,rfl,⟨p1,rfl,h1⟩,hys⟩:=hi.code
  exact ⟨_,.L3 h1 (.cons ⟨p1,rfl⟩ hys),fun b a cs w=>step_scope⟩
theorem Run.scp (h:Run cx K k F L σ):Run cx K (.scp::k) F L σ:=
 h.L4 fun items hi=>by
  cases hi with
  |cons hy hys=>obtain ⟨p,rfl⟩:=hy;exact ⟨_,hys,fun b a cs w=>step_inScope⟩
theorem Run.seq {x y:C} (h:Run cx K (.code x::.code y::k) F L σ):Run cx K (.code (.seq x y)::k) F L σ:=
 h.L4 fun items hi=>by
  obtain ⟨p,ys,rfl,⟨p1,p2,rfl,h1,h2⟩,hys⟩:=hi.code
  exact ⟨_,.L3 h1 (.L3 h2 hys),fun b a cs w=>step_seq⟩
theorem Run.block {id:Nat} {c:C} (h:Run cx K (.code c::.blk id::k) F L σ):Run cx K (.code (.block id c)::k) F L σ:=
 h.L4 fun items hi=>by
  obtain ⟨p,ys,rfl,⟨p1,rfl,h1⟩,hys⟩:=hi.code
  exact ⟨_,.L3 h1 (.cons rfl hys),fun b a cs w=>step_block⟩
theorem Run.blk {id:Nat} (h:Run cx K k F L σ):Run cx K (.blk id::k) F L σ:=
 h.L4 fun items hi=>by
  cases hi with
  |cons hy hys=>cases hy;exact ⟨_,hys,fun b a cs w=>step_inBlock⟩
theorem Run.loop {c:C} (h:Run cx K (.code c::.again c::k) F L σ):Run cx K (.code (.loop c)::k) F L σ:=
 h.L4 fun items hi=>by
  obtain ⟨p,ys,rfl,⟨p1,rfl,h1⟩,hys⟩:=hi.code
  exact ⟨_,.L3 h1 (.cons ⟨p1,rfl,h1⟩ hys),fun b a cs w=>step_loop⟩
theorem Run.again {c:C} (h:Run cx K (.code c::.again c::k) F L σ):Run cx K (.again c::k) F L σ:=
 h.L4 fun items hi=>by
  cases hi with
  |cons hy hys=>obtain ⟨p1,rfl,h1⟩:=hy;exact ⟨_,.L3 h1 (.cons ⟨p1,rfl,h1⟩ hys),fun b a cs w=>step_inLoop⟩
def TO (id:Nat):List CI→Option (List CI)
 | .blk id'::k=>if id'=id then some k else TO id k
 |_::k=>TO id k
 |[]=>none
theorem KE {id:Nat}:∀(k:List CI) (items:List Item) (k':List CI),RIs cx k items→TO id k=some k'→∃items',exitTo id items=some items'∧RIs cx k' items'
 |[],_,_,_,h=>by cases h
 |x::k,items,k',hi,h=>by
  cases hi with
  |@cons _ y _ ys hy hys=>
   cases x with
   |code c=>
    obtain ⟨p,rfl,_⟩:=hy
    obtain ⟨i',h1,h2⟩:=KE k ys k' hys (by simpa [TO] using h)
    exact ⟨i',by simpa [exitTo] using h1,h2⟩
   |again c=>
    obtain ⟨p,rfl,_⟩:=hy
    obtain ⟨i',h1,h2⟩:=KE k ys k' hys (by simpa [TO] using h)
    exact ⟨i',by simpa [exitTo] using h1,h2⟩
   |scp=>
    obtain ⟨p,rfl⟩:=hy
    obtain ⟨i',h1,h2⟩:=KE k ys k' hys (by simpa [TO] using h)
    exact ⟨i',by simpa [exitTo] using h1,h2⟩
   |blk id'=>
    cases hy
    simp only [TO] at h
    split at h
    · rename_i e
      cases h
      exact ⟨ys,by simp [exitTo,e],hys⟩
    · rename_i e
      obtain ⟨i',h1,h2⟩:=KE k ys k' hys h
      exact ⟨i',by simpa [exitTo,e] using h1,h2⟩
theorem Run.exit {id:Nat} {k':List CI} (he:TO id k=some k') (h:Run cx K k' F L σ):Run cx K (.code (.exit id)::k) F L σ:=
 h.L4 fun items hi=>by
  obtain ⟨p,ys,rfl,hp,hys⟩:=hi.code
  cases hp
  obtain ⟨i',h1,h2⟩:=KE k ys k' hys he
  exact ⟨i',h2,fun b a cs w=>step_exit h1⟩
theorem Run.cond {x:X} {t e:C} {b:Bool} (hx:xv F x= .d (.bool b)) (ht:b=true→Run cx K (.code t::k) F L σ) (he:b=false→Run cx K (.code e::k) F L σ):
 Run cx K (.code (.cond x t e)::k) F L σ:=by
 intro items base g lam Pr a w0 w fb cs hi hf hb hk
 obtain ⟨p,ys,rfl,⟨c,p1,p2,rfl,hc,h1,h2⟩,hys⟩:=hi.code
 have hv:=Aa hc hf
 rw [hx] at hv
 have hev:a.eval c= .bool b:=by generalize a.eval c=vc at hv;cases hv with|d hh=>cases hh;rfl
 cases b with
 |true=>
  obtain ⟨v,w',fr,hs,rest⟩:=ht rfl _ base g lam Pr a w0 w fb cs (.L3 h1 hys) hf hb hk
  exact ⟨v,w',fr,.head (step_cond hev) hs,rest⟩
 |false=>
  obtain ⟨v,w',fr,hs,rest⟩:=he rfl _ base g lam Pr a w0 w fb cs (.L3 h2 hys) hf hb hk
  exact ⟨v,w',fr,.head (step_cond hev) hs,rest⟩
def gE (cx:Cx) (K:AV→AN→Prop) (k:List CI) (live:List Nat):CP:=fun F L σ=>Run cx K k (WL live F) (TW live L) σ
theorem Run.reg {ops:List Q} {live:List Nat} (hm:cx.P.follows .mixedOrders=true) (h:BM cx.P (gE cx K k live) ops F L σ):Run cx K (.code (.reg ops live)::k) F L σ:=by
 intro items base g lam Pr a w0 w b cs hi hf hb hk
 obtain ⟨p,ys,rfl,⟨id,arr,hp⟩,hys⟩:=hi.code
 have hw:p.wp cx.P (fun e a' w'=>e= .normal∧Ed base Pr cx.N w0 g w (gE cx K k live) a' w') a w:=by
  rcases hp with ⟨rfl,hc⟩|⟨rfl,order,hc⟩|⟨rfl,pt,t,hc,hl⟩
  · exact wp_region (XJ cx.P arr cx.N cx.esc (gE cx K k live) _ _ base g lam Pr F L σ a w0 w hc h hf (fun _ _ h=>⟨rfl,h⟩))
  · exact b9 hm hc h hf
  · exact Uj hm hc (mE t ops F L σ hl h) hf
 obtain ⟨e,a',w',⟨he,g',lam',F',L',σ',hle,hkp,hf',hK⟩,harr⟩:=hw b ys cs
 subst he
 obtain ⟨v,w2,fr,hs,hfn,hl,av,g2,σ2,hvr,hrel,hle2,hkp2,hk2⟩:=hK ys base g' lam' Pr a' w0 w' b cs hys (hf'.kept live) hb hk
 exact ⟨v,w2,fr,Steps.trans harr hs,hfn,hl,av,g2,σ2,hvr,hrel,Gh.le_trans hle hle2,hkp.trans hkp2,hk2⟩
theorem Run.Qi {t:QT} {live:List Nat} (hm:cx.P.follows .mixedOrders=true) (h:XT cx.P (gE cx K k live) false t F L σ):Run cx K (.code (.Qi t live)::k) F L σ:=by
 intro items base g lam Pr a w0 w b cs hi hf hb hk
 obtain ⟨p,ys,rfl,⟨id,arr,pt,rfl,hc⟩,hys⟩:=hi.code
 have hw:(Code.region id arr true).wp cx.P (fun e a' w'=>e= .normal∧Ed base Pr cx.N w0 g w (gE cx K k live) a' w') a w:=Uj hm hc h hf
 obtain ⟨e,a',w',⟨he,g',lam',F',L',σ',hle,hkp,hf',hK⟩,harr⟩:=hw b ys cs
 subst he
 obtain ⟨v,w2,fr,hs,hfn,hl,av,g2,σ2,hvr,hrel,hle2,hkp2,hk2⟩:=hK ys base g' lam' Pr a' w0 w' b cs hys (hf'.kept live) hb hk
 exact ⟨v,w2,fr,Steps.trans harr hs,hfn,hl,av,g2,σ2,hvr,hrel,Gh.le_trans hle hle2,hkp.trans hkp2,hk2⟩
theorem U6 (hf:BR base g lam Pr N F L σ a w0 w):∀(l:List ResultVar) (rs:List RV) (vs:List AV),Ui P l=some rs→dG F L σ rs=some vs→vs.all AV.At=true→
 ∃xs:List Value,(l.mapM fun| .tmp t=>pure (a.tmps.getD t C0)| .cell ad t=>do loadVar t (← asAddr (a.tmps.getD ad C0)):Sem (List Value)).run P w= .ok xs w∧VRs g vs xs
 |[],rs,vs,hc,hv,_=>by
  simp only [Ui,AP] at hc;subst hc
  simp only [dG,AP] at hv;subst hv
  exact ⟨[],by simp,.nil⟩
 | .tmp n::l,rs,vs,hc,hv,hn=>by
  simp only [Ui,AS,AB] at hc
  obtain ⟨rs',hrs,he⟩:=hc
  cases he
  simp only [dG,AS,AB,rvA] at hv
  obtain ⟨v,hv1,vs',hvs,he⟩:=hv
  cases he;cases hv1
  simp only [Bk,AK] at hn
  obtain ⟨xs,hx,hr⟩:=U6 hf l rs' vs' hrs hvs hn.2
  exact ⟨a.tmps.getD n C0::xs,by simp only [List.mapM_cons,Sem.run_bind,Sem.run_pure,Result.andThen_ok,hx],.cons ((hf.tm n).vr hn.1) hr⟩
 | .cell n t::l,rs,vs,hc,hv,hn=>by
  simp only [Ui,AS,AB] at hc
  obtain ⟨kk,hkk,rs',hrs,he⟩:=hc
  cases he
  simp only [dG,AS,AB,rvA] at hv
  obtain ⟨v,hv1,vs',hvs,he⟩:=hv
  cases he
  simp only [Bk,AK] at hn
  obtain ⟨xs,hx,hr⟩:=U6 hf l rs' vs' hrs hvs hn.2
  obtain ⟨x,hld,hvr⟩:=Zl (P:=P) hkk hf (hf.tm n) hv1
  have hasaddr:(do loadVar t (← asAddr (a.tmps.getD n C0)):Sem Value).run P w= .ok x w:=by
   have hs:=hf.tm n
   generalize a.tmps.getD n C0=pn at hs hld
   cases hp:pn<;>simp only [hp,Instr.loadAt,Instr.sureAddr] at hld<;>try (simp at hld;done)
   rename_i ad
   cases ad with
   |none=>simp at hld
   |some ad=>simpa [asAddr,Instr.sureAddr] using hld
  exact ⟨x::xs,by simp only [Sem.run_bind] at hasaddr;simp only [List.mapM_cons,Sem.run_bind,hasaddr,hx,Result.andThen_ok,Sem.run_pure],.cons hvr hr⟩
theorem YI {fn:Func} {rs:List RV} (hc:Ui P fn.results.toList=some rs) (hf:BR base g lam Pr N F L σ a w0 w) {v:AV} (hv:Yx F L σ rs=some v):
 ∃x,(results fn a.tmps).run P w= .ok x w∧VR g v x:=by
 simp only [Yx,AB] at hv
 obtain ⟨vs,hvs,hv⟩:=hv
 split at hv
 case isFalse=>cases hv
 rename_i hn
 obtain ⟨xs,hx,hr⟩:=U6 (P:=P) hf _ rs vs hc hvs hn
 have hrun:(results fn a.tmps).run P w= .ok (if h:xs.toArray.size=1 then xs.toArray[0] else .tuple xs.toArray) w:=by
  unfold results
  rw [Array.mapM_eq_mapM_toList]
  simp only [Sem.run_bind,Sem.run_map,Sem.run_pure]
  exact congrArg (fun r:Result (List Value)=>(r.andThen fun a w'=>Result.ok a.toArray w').andThen fun (a:Array Value) w'=>Result.ok (if h:a.size=1 then a[0] else Value.tuple a) w') hx
 have hlen:=hr.length
 cases vs with
 |nil=>
  cases hv
  cases hr
  exact ⟨_,hrun,by simpa using VR.tup (g:=g) (cs:=[]) (vs:=[]) rfl (by simp)⟩
 |cons v1 vs=>
  cases vs with
  |nil=>
   cases hv
   cases hr with|cons h1 h2=>cases h2;exact ⟨_,hrun,by simpa using h1⟩
  |cons v2 vs=>
   cases hv
   refine ⟨_,hrun,?_⟩
   have hne:¬xs.toArray.size=1:=by simp at hlen ⊢;omega
   rw [dif_neg hne]
   exact .tup hr.length hr.idx
theorem Run.fin {σ2:AN} (hg:Good cx) {v v':AV} (hv:Yx F L σ cx.rs=some v) (hw:∀g x,VR g v x→VR g v' x) (hσ:σ2.le σ) (hK:K v' σ2):Run cx K [] F L σ:=by
 intro items base g lam Pr a w0 w b cs hi hf hb hk
 cases hi
 obtain ⟨x,hx,hvr⟩:=YI hg.2 hf hv
 refine ⟨x,w,_,.one step_end,hb,⟨rfl,hf.df,hk,cx.fn,by show cx.P.funcs[b.fn]?=_;rw [hb];exact hg.1,hx⟩,v',g,σ2,hw g x hvr,?_,Gh.le_refl g,KP.refl Pr w,hK⟩
 exact (hf.rel.less hσ).grow (A7 _) (fun _ _ _=>rfl) (Below.refl _ _) (fun b hp=>⟨(hf.rel.pr b (.inl hp)).1,.inl (.inl hp)⟩)
theorem Run.ret {σ2:AN} (hg:Good cx) {v v':AV} (hv:Yx F L σ cx.rs=some v) (hw:∀g x,VR g v x→VR g v' x) (hσ:σ2.le σ) (hK:K v' σ2):Run cx K (.code .ret::k) F L σ:=by
 intro items base g lam Pr a w0 w b cs hi hf hb hk
 obtain ⟨p,ys,rfl,hp,hys⟩:=hi.code
 cases hp
 obtain ⟨x,hx,hvr⟩:=YI hg.2 hf hv
 refine ⟨x,w,_,.one step_ret,hb,⟨rfl,hf.df,hk,cx.fn,by show cx.P.funcs[b.fn]?=_;rw [hb];exact hg.1,hx⟩,v',g,σ2,hw g x hvr,?_,Gh.le_refl g,KP.refl Pr w,hK⟩
 exact (hf.rel.less hσ).grow (A7 _) (fun _ _ _=>rfl) (Below.refl _ _) (fun b hp=>⟨(hf.rel.pr b (.inl hp)).1,.inl (.inl hp)⟩)
def As (args:List AV):Fm:=fun s=>args.getD s .undef
theorem AX {args:List AV} {c:C} {code:Code} (hg:Good cx) (hb:cx.fn.body=some code) (hN:cx.fn.ntmps=cx.N) (hl:args.length≤cx.N) (hc:RC cx c code)
 (h:Run cx K [.code c] (As args) (fun _=>none) σ):AT cx.P cx.f args σ K:=by
 intro base g Pr w0 w vs hrel hvs cs
 let b:Frame:= { (default:Frame) with fn:=cx.f,kind:= .normal}
 have henter:Frame.enter cx.P cx.f vs.toArray .normal=b.at { tmps:=vs.toArray++EZ (cx.fn.ntmps - vs.toArray.size) C0,defers:=[]} [.code code]:=by
  simp [Frame.enter,Frame.at,hg.1,hb,b]
 have hvl:=hvs.length
 have hf:BR base g (fun _=>none) Pr cx.N (As args) (fun _=>none) σ { tmps:=vs.toArray++EZ (cx.fn.ntmps - vs.toArray.size) C0,defers:=[]} w0 w:=by
  refine ⟨fun s=>?_,by simp;omega,rfl,fun k cs hk=>(by cases hk),fun k k' b hk=>(by cases hk),fun k b hk=>(by cases hk),?_⟩
  · simp only [As,Su]
    cases hs:args[s]? with
    |none=>exact VR.undef
    |some av=>
     obtain ⟨v,hv,hr⟩:=hvs.at s av hs
     have hlt:=(A8.1 hv).1
     have:(vs.toArray++EZ (cx.fn.ntmps - vs.toArray.size) C0).getD s C0=v:=by
      simp only [CZ]
      rw [Array.getElem?_append_left (by simpa using hlt)]
      simp [hv]
     show SV g _ av ((vs.toArray++EZ (cx.fn.ntmps - vs.toArray.size) C0).getD s C0)
     rw [this];exact SV.E1 hr
  · exact hrel.grow (A7 _) (fun _ _ _=>rfl) (Below.refl _ _) (fun b hp=>by
     rcases hp with hp|⟨k,hk⟩
     · exact ⟨(hrel.pr b hp).1,.inl hp⟩
     · cases hk)
 obtain ⟨v,w',fr,hs,hfn,hlv,av,g',σ',h1,h2,h3,h4,h5⟩:=h [.code code] base g _ Pr _ w0 w b cs (.L3 hc .nil) hf rfl rfl
 rw [← henter] at hs
 exact ⟨.returned v,w',fr,⟨v,av,g',σ',rfl,h1,h2,h3,h4,h5⟩,hs,hfn,hlv⟩
end Go.Ab
namespace Go.Ab
open Go.RowKit
variable {P:Program} {K:CP} {F:Fm} {L:Lm} {σ:AN} {r:List Q}
def E:Lm:=fun _=>none
def SO (k:Nat) (o:Option (List AV)) (L:Lm):Lm:=fun s=>if s=k then o else L s
theorem Ig (d:Nat) (v:AV) (F:Fm) (s:Nat):put d v F s=if s=d then v else F s:=rfl
theorem nJ (d:Nat) (cs:List AV) (L:Lm) (s:Nat):Be d cs L s=if s=d then some cs else L s:=rfl
theorem vQ (s:Nat):E s=none:=rfl
theorem vV (s:Nat):U s= .undef:=rfl
theorem lL (F:Fm):WL [] F=U:=rfl
theorem iL (k:Nat) (ks:List Nat) (F:Fm):WL (k::ks) F=put k (F k) (WL ks F):=by
 funext s
 simp only [WL,put,Bm]
 by_cases h:s=k
 · subst h;simp
 · simp [h]
theorem iK (L:Lm):TW [] L=E:=rfl
theorem cH (k:Nat) (ks:List Nat) (L:Lm):TW (k::ks) L=SO k (L k) (TW ks L):=by
 funext s
 simp only [TW,SO,Bm]
 by_cases h:s=k
 · subst h;simp
 · simp [h]
theorem dE (k:Nat) (cs:List AV) (L:Lm):SO k (some cs) L=Be k cs L:=rfl
theorem qW (k:Nat):SO k none E=E:=by funext s;simp [SO,E]
theorem dD (k j:Nat) (cs:List AV) (L:Lm):SO k none (Be j cs L)=if j=k then SO k none L else Be j cs (SO k none L):=by
 funext s
 by_cases h:j=k
 · subst h
   simp only [if_true,SO,Be]
   by_cases h2:s=j<;>simp [h2]
 · simp only [h,if_false,SO,Be]
   by_cases h2:s=k
   · have h3:s≠j:=by omega
     rw [if_pos h2,if_neg h3,if_pos h2]
   · rw [if_neg h2]
     by_cases h3:s=j
     · rw [if_pos h3,if_pos h3]
     · rw [if_neg h3,if_neg h3,if_neg h2]
theorem jK (k:Nat) (cs ds:List AV) (L:Lm):Be k cs (Be k ds L)=Be k cs L:=by
 funext s;simp only [Be];split<;>rfl
theorem xM (F:Fm) (n:Nat):xv F (.t n)=F n:=rfl
theorem xL (F:Fm) (v:AV):xv F (.c v)=v:=rfl
theorem BO (a:AV):As [a]=put 0 a U:=by
 funext s;simp only [As,put,U];cases s<;>simp
theorem BL (a b:AV):As [a,b]=put 0 a (put 1 b U):=by
 funext s;simp only [As,put,U]
 match s with|0=>rfl|1=>rfl|n+2=>simp
theorem II (a b c:AV):As [a,b,c]=put 0 a (put 1 b (put 2 c U)):=by
 funext s;simp only [As,put,U]
 match s with|0=>rfl|1=>rfl|2=>rfl|n+3=>simp
theorem Vl (a b c d:AV):As [a,b,c,d]=put 0 a (put 1 b (put 2 c (put 3 d U))):=by
 funext s;simp only [As,put,U]
 match s with|0=>rfl|1=>rfl|2=>rfl|3=>rfl|n+4=>simp
theorem qV (k:Nat):Cs k U=U:=by funext s;simp [Cs,U,AV.BQ]
theorem jJ (k d:Nat) (v:AV) (F:Fm):Cs k (put d v F)=put d (if v.BQ k then .undef else v) (Cs k F):=by
 funext s
 simp only [Cs,put]
 by_cases h:s=d<;>simp [h]
theorem uA (k:Nat) (x:DV):(AV.d x).BQ k=false:=rfl
theorem iV (k:Nat):AV.AW.BQ k=false:=rfl
theorem mH (k t e s:Nat) (r:List (List DV)):(AV.own t e s r).BQ k=false:=rfl
theorem iS (k:Nat) (r:List (List DV)):(AV.clip r).BQ k=false:=rfl
theorem mG (k:Nat) (r:List AV):(AV.agg r).BQ k=false:=rfl
theorem qD (k j o:Nat):(AV.lp j o).BQ k=(j==k):=rfl
theorem qC (k j o:Nat):(AV.gp j o).BQ k=false:=rfl
theorem qA (k o:Nat) (r:List DV):(AV.ep r o).BQ k=false:=rfl
theorem iU (k:Nat):AV.Ei.BQ k=false:=rfl
theorem qE (k i n s e:Nat):(AV.ms i n s e).BQ k=false:=rfl
theorem qF (k:Nat) (i o n s e:Nat):(AV.mv i o n s e).BQ k=false:=rfl
theorem p9 (k:Nat) (t e:Nat) (s:List UInt8):(AV.bp t e s).BQ k=false:=rfl
theorem iT (k:Nat):AV.Nj.BQ k=false:=rfl
theorem qB (k:Nat) (f:FuncId) (x y:List AV):(AV.fn f x y).BQ k=false:=rfl
theorem mI (k:Nat) (x:List AV):(AV.tup x).BQ k=false:=rfl
theorem cM (k:Nat):AV.undef.BQ k=false:=rfl
theorem oR (x:DV):AV.cells (AV.d x)=[(AV.d x)]:=rfl
theorem bR:AV.cells AV.AW=[AV.AW]:=rfl
theorem gW (t e s:Nat) (r:List (List DV)):AV.cells (AV.own t e s r)=[(AV.own t e s r)]:=rfl
theorem bO (r:List (List DV)):AV.cells (AV.clip r)=[(AV.clip r)]:=rfl
theorem gV (r:List AV):AV.cells (AV.agg r)=r:=rfl
theorem kT (j o:Nat):AV.cells (AV.lp j o)=[(AV.lp j o)]:=rfl
theorem kS (j o:Nat):AV.cells (AV.gp j o)=[(AV.gp j o)]:=rfl
theorem kQ (r:List DV) (o:Nat):AV.cells (AV.ep r o)=[(AV.ep r o)]:=rfl
theorem bQ:AV.cells AV.Ei=[AV.Ei]:=rfl
theorem kU (i n s e:Nat):AV.cells (AV.ms i n s e)=[(AV.ms i n s e)]:=rfl
theorem kV (i o n s e:Nat):AV.cells (AV.mv i o n s e)=[AV.mv i o n s e]:=rfl
theorem kP (t e:Nat) (s:List UInt8):AV.cells (AV.bp t e s)=[AV.bp t e s]:=rfl
theorem bP:AV.cells AV.Nj=[AV.Nj]:=rfl
theorem kR (f:FuncId) (x y:List AV):AV.cells (AV.fn f x y)=[(AV.fn f x y)]:=rfl
theorem gX (x:List AV):AV.cells (AV.tup x)=[(AV.tup x)]:=rfl
theorem Z0:AV.cells AV.undef=[AV.undef]:=rfl
theorem lI (x:DV):AV.CF (AV.d x)=true:=rfl
theorem Zd:AV.CF AV.AW=true:=rfl
theorem cE (t e s:Nat) (r:List (List DV)):AV.CF (AV.own t e s r)=true:=rfl
theorem Z9 (r:List (List DV)):AV.CF (AV.clip r)=true:=rfl
theorem cD (r:List AV):AV.CF (AV.agg r)=false:=rfl
theorem iE (j o:Nat):AV.CF (AV.lp j o)=false:=rfl
theorem iD (j o:Nat):AV.CF (AV.gp j o)=true:=rfl
theorem iB (r:List DV) (o:Nat):AV.CF (AV.ep r o)=true:=rfl
theorem Zc:AV.CF AV.Ei=true:=rfl
theorem iF (i n s e:Nat):AV.CF (AV.ms i n s e)=true:=rfl
theorem iG (i o n s e:Nat):AV.CF (AV.mv i o n s e)=true:=rfl
theorem iA (t e:Nat) (s:List UInt8):AV.CF (AV.bp t e s)=true:=rfl
theorem Zb:AV.CF AV.Nj=true:=rfl
theorem iC (f:FuncId) (x y:List AV):AV.CF (AV.fn f x y)=true:=rfl
theorem cF (x:List AV):AV.CF (AV.tup x)=false:=rfl
theorem Yb:AV.CF AV.undef=false:=rfl
theorem J6 (x:DV):AV.At (AV.d x)=true:=rfl
theorem jA:AV.At AV.AW=true:=rfl
theorem mM (t e s:Nat) (r:List (List DV)):AV.At (AV.own t e s r)=true:=rfl
theorem iX (r:List (List DV)):AV.At (AV.clip r)=true:=rfl
theorem FO (r:List AV):AV.At (AV.agg r)=true:=rfl
theorem qL (j o:Nat):AV.At (AV.lp j o)=false:=rfl
theorem Ic (j o:Nat):AV.At (AV.gp j o)=true:=rfl
theorem qJ (r:List DV) (o:Nat):AV.At (AV.ep r o)=true:=rfl
theorem iZ:AV.At AV.Ei=true:=rfl
theorem qM (i n s e:Nat):AV.At (AV.ms i n s e)=true:=rfl
theorem qN (i o n s e:Nat):AV.At (AV.mv i o n s e)=true:=rfl
theorem qI (t e:Nat) (s:List UInt8):AV.At (AV.bp t e s)=true:=rfl
theorem iY:AV.At AV.Nj=true:=rfl
theorem qK (f:FuncId) (x y:List AV):AV.At (AV.fn f x y)=true:=rfl
theorem mN (x:List AV):AV.At (AV.tup x)=true:=rfl
theorem cQ:AV.At AV.undef=true:=rfl
theorem xD (x:DV):AV.dv (AV.d x)=some x:=rfl
theorem o8:AV.dv AV.AW=some (.sl []):=rfl
theorem tI (t e s:Nat) (r:List (List DV)):AV.dv (AV.own t e s r)=some (.sl r):=rfl
theorem oY (r:List (List DV)):AV.dv (AV.clip r)=some (.sl r):=rfl
theorem tH (r:List AV):AV.dv (AV.agg r)=none:=rfl
theorem v8 (j o:Nat):AV.dv (AV.lp j o)=none:=rfl
theorem v7 (j o:Nat):AV.dv (AV.gp j o)=none:=rfl
theorem vY (r:List DV) (o:Nat):AV.dv (AV.ep r o)=none:=rfl
theorem o6:AV.dv AV.Ei=some .Ei:=rfl
theorem wB (i o n s e:Nat):AV.dv (AV.mv i o n s e)=none:=rfl
theorem vX (t e:Nat) (s:List UInt8):AV.dv (AV.bp t e s)=none:=rfl
theorem oZ:AV.dv AV.Nj=none:=rfl
theorem wA (i n s e:Nat):AV.dv (AV.ms i n s e)=none:=rfl
theorem vZ (f:FuncId) (x y:List AV):AV.dv (AV.fn f x y)=none:=rfl
theorem tJ (x:List AV):AV.dv (AV.tup x)=none:=rfl
theorem k8:AV.dv AV.undef=none:=rfl
theorem jN:AV.rows AV.AW=some []:=rfl
theorem nM (t e s:Nat) (r:List (List DV)):AV.rows (AV.own t e s r)=some r:=rfl
theorem jM (r:List (List DV)):AV.rows (AV.clip r)=some r:=rfl
theorem uL (r:List (List DV)):AV.rows (AV.d (.sl r))=some r:=rfl
theorem iP:Rf AV.AW=some (.d (.int .i64 0)):=rfl
theorem lW (t e s:Nat) (r:List (List DV)):Rf (AV.own t e s r)=some (.d (.int .i64 r.length)):=rfl
theorem iO (r:List (List DV)):Rf (AV.clip r)=some (.d (.int .i64 r.length)):=rfl
theorem pP (i n s e:Nat):Rf (AV.ms i n s e)=some (.d (.int .i64 n)):=rfl
theorem pQ (i o n s e:Nat):Rf (AV.mv i o n s e)=some (.d (.int .i64 n)):=rfl
theorem tV (r:List (List DV)):Rf (AV.d (.sl r))=some (.d (.int .i64 r.length)):=rfl
theorem vK:BM P K [] F L σ=K F L σ:=rfl
theorem vP (b:Bool) (q:Q) (t:QT):XT P K b (.one q t) F L σ=BM P (XT P K false t) [q] F L σ:=by cases b<;>rfl
theorem vO (b:Bool) (q:Q) (t s:QT):XT P K b (.alt q t s) F L σ=(BM P (XT P K false t) [q] F L σ∧XT P K true s F L σ):=by cases b<;>rfl
theorem r4:XT P K false .done F L σ=K F L σ:=rfl
theorem r7:XT P K true .done F L σ=True:=rfl
theorem oH (v:AV) (d:Nat):XPv (some v) (some d) K F L σ=K (put d v F) L σ:=rfl
theorem w8 (d:Nat) (x:X):BM P K (⟨some d,.mv x,none⟩::r) F L σ=BM P K r (put d (xv F x) F) L σ:=rfl
theorem rX (d:Option Nat) (x y z:X):BM P K (⟨d,.pick x y z,none⟩::r) F L σ=XPv (Zy (xv F x) (xv F y) (xv F z)) d (BM P K r) F L σ:=rfl
theorem vD (d:Option Nat) (x:X) (o:Nat):BM P K (⟨d,.fld x o,none⟩::r) F L σ=XPv (cA (xv F x) o) d (BM P K r) F L σ:=rfl
theorem w6 (d:Option Nat) (x:X) (n:Option Nat):BM P K (⟨d,.ld x n,none⟩::r) F L σ=XPv (ldA L σ (xv F x) n) d (BM P K r) F L σ:=rfl
theorem w5 (d:Option Nat) (x y:X) (n:Nat):BM P K (⟨d,.ix x y n,none⟩::r) F L σ=XPv (ixA (xv F x) (xv F y) n) d (BM P K r) F L σ:=rfl
theorem rZ (d:Option Nat) (x y:X):BM P K (⟨d,.Wl x y,none⟩::r) F L σ=XPv (Wm (xv F x) (xv F y)) d (BM P K r) F L σ:=rfl
theorem vF (d:Option Nat) (x:X):BM P K (⟨d,.len x,none⟩::r) F L σ=XPv (Rf (xv F x)) d (BM P K r) F L σ:=rfl
theorem r1 (d:Option Nat) (x:X):BM P K (⟨d,.Pw x,none⟩::r) F L σ=XPv (YJ (xv F x)) d (BM P K r) F L σ:=rfl
theorem uZ (d:Option Nat) (op:BinOp) (x y:X):BM P K (⟨d,.bin op x y,none⟩::r) F L σ=XPv (gP op (xv F x) (xv F y)) d (BM P K r) F L σ:=rfl
theorem rR (d:Option Nat) (op:BinOp) (x y:X):BM P K (⟨d,.kL op x y,none⟩::r) F L σ=XPv (Xm op (xv F x) (xv F y)) d (BM P K r) F L σ:=rfl
theorem xA (d:Option Nat) (op:UnOp) (x:X):BM P K (⟨d,.un op x,none⟩::r) F L σ=XPv (unA op (xv F x)) d (BM P K r) F L σ:=rfl
theorem rW (d:Option Nat) (k:IntKind) (x:X):BM P K (⟨d,.conv k x,none⟩::r) F L σ=XPv (Xq k (xv F x)) d (BM P K r) F L σ:=rfl
theorem u6 (d:Option Nat) (z:List AV) (ps:List (Nat×Nat×X)):BM P K (⟨d,.bld z ps,none⟩::r) F L σ=XPv ((Ho z F ps).map .agg) d (BM P K r) F L σ:=rfl
theorem vB (d:Option Nat) (s n:Nat) (z:List AV) (ps:List (Nat×Nat×X)):BM P K (⟨d,.bsl s n z ps,none⟩::r) F L σ=XPv (((Ho z F ps).bind dvs).map fun l=>.d (.sl (chunk s n l))) d (BM P K r) F L σ:=rfl
theorem vG (d:Option Nat) (f:FuncId) (x y:List X):BM P K (⟨d,.mkf f x y,none⟩::r) F L σ=XPv (if (xvs F x++xvs F y).all AV.At then some (.fn f (xvs F x) (xvs F y)) else none) d (BM P K r) F L σ:=rfl
theorem vC (d:Option Nat) (x:X) (i:Nat):BM P K (⟨d,.ext x i,none⟩::r) F L σ=XPv (hC (xv F x) i) d (BM P K r) F L σ:=rfl
theorem vJ (d:Option Nat) (x:X):BM P K (⟨d,.nck x,none⟩::r) F L σ=XPv (mK (xv F x)) d (BM P K r) F L σ:=rfl
theorem w7 (d:Option Nat) (b:Bool) (x y:X):BM P K (⟨d,.mm b x y,none⟩::r) F L σ=XPv (mmA b (xv F x) (xv F y)) d (BM P K r) F L σ:=rfl
theorem vA (d:Nat) (x:X):BM P K (⟨some d,.box x false,none⟩::r) F L σ=(Af (xv F x).cells=true∧BM P K r (put d (.lp d 0) (Cs d F)) (Be d (xv F x).cells L) σ):=rfl
theorem wV (d:Nat) (z:List AV):BM P K (⟨some d,.al z false,none⟩::r) F L σ=(Af z=true∧BM P K r (put d (.lp d 0) (Cs d F)) (Be d z L) σ):=rfl
theorem rS (d:Nat) (x:X):BM P K (⟨some d,.box x true,none⟩::r) F L σ=(Af (xv F x).cells=true∧∀i,σ.blk i=none→BM P K r (put d (.gp i 0) F) L (σ.AL i (xv F x).cells)):=rfl
theorem uX (d:Nat) (z:List AV):BM P K (⟨some d,.al z true,none⟩::r) F L σ=(Af z=true∧∀i,σ.blk i=none→BM P K r (put d (.gp i 0) F) L (σ.AL i z)):=rfl
def sR (K:CP) (F:Fm):Option (Lm×AN)→Prop
 |some (L',σ')=>K F L' σ'
 |none=>False
theorem oI (F:Fm) (L':Lm) (σ':AN):sR K F (some (L',σ'))=K F L' σ':=rfl
theorem w9 (x v:X) (n:Nat):BM P K (⟨none,.st x v n,none⟩::r) F L σ=(Af (xv F v).cells=true∧(xv F v).cells.length=n∧sR (BM P K r) F (stA L σ (xv F v).cells (xv F x))):=by
 show XSt _ _ _ _ _ _ _ _=_
 unfold XSt sR
 simp only [true_and]
 cases stA L σ (xv F v).cells (xv F x)<;>rfl
theorem wY (d:Option Nat) (o:O) (s:Nat) (want:Bool):BM P K (⟨d,o,some (s,want)⟩::r) F L σ=XG (gdV want (F s)) (BM P K (⟨d,o,none⟩::r) F L σ) (BM P K r (An d (.tup []) F) L σ):=rfl
theorem w4 (d:Option Nat) (o:O) (s:Nat) (want:Bool) (h:gdV want (F s)=some true):BM P K (⟨d,o,some (s,want)⟩::r) F L σ=BM P K (⟨d,o,none⟩::r) F L σ:=by rw [wY,h];rfl
theorem wZ (d:Option Nat) (o:O) (s:Nat) (want:Bool) (h:gdV want (F s)=some false):BM P K (⟨d,o,some (s,want)⟩::r) F L σ=BM P K r (An d (.tup []) F) L σ:=by rw [wY,h];rfl
theorem wC (want b:Bool):gdV want (.d (.bool b))=some (b==want):=rfl
theorem wD (want:Bool):gdV want (.tup [])=some false:=rfl
theorem jL (d:Nat) (v:AV) (F:Fm):An (some d) v F=put d v F:=rfl
theorem rV (d:Option Nat) (f:FuncId) (args:List X):BM P K (⟨d,.call f args,none⟩::r) F L σ=AG P f (xvs F args) d (BM P K r) F L σ:=rfl
theorem oG (d:Option Nat) (f:FuncId) (args:List X):BM P K (⟨d,.Ur f args,none⟩::r) F L σ=Vg P f (xvs F args) d (BM P K r) F L σ:=rfl
theorem uY (d:Option Nat) (e s b:Nat) (x y:X):BM P K (⟨d,.app e s b x y,none⟩::r) F L σ=NT e s b (xv F x) (xv F y) d (BM P K r) F L σ:=rfl
def sL (P:Program) (x:AV) (args:List AV) (dst:Option Nat) (K:CP) (F:Fm) (L:Lm) (σ:AN):Prop:=
 ∃f first caps,x= .fn f first caps∧Am P f=true∧AG P f (first++args++caps) dst K F L σ
theorem oE (d:Option Nat) (x:X) (args:List X):BM P K (⟨d,.ED x args,none⟩::r) F L σ=sL P (xv F x) (xvs F args) d (BM P K r) F L σ:=rfl
theorem vI (d:Option Nat) (e s b:Nat) (z:List AV) (x y:X):BM P K (⟨d,.msl e s b z x y,none⟩::r) F L σ=kA e s b z (xv F x) (xv F y) d (BM P K r) F L σ:=rfl
theorem rQ (d:Option Nat) (e s b:Nat) (x y:X):BM P K (⟨d,.XL e s b x y,none⟩::r) F L σ=ZQ e s b (xv F x) (xv F y) d (BM P K r) F L σ:=rfl
theorem vN (d:Option Nat) (x y:X):BM P K (⟨d,.trn x y,none⟩::r) F L σ=sS (xv F x) (xv F y) d (BM P K r) F L σ:=rfl
theorem rU (d:Option Nat) (e s n:Nat) (z:List AV) (ps:List (Nat×Nat×X)):BM P K (⟨d,.Li e s n z ps,none⟩::r) F L σ=Hh e s n (Ho z F ps) d (BM P K r) F L σ:=rfl
theorem vE (d:Option Nat) (x:X) (n:Option Nat):BM P K (⟨d,.ldl x n,none⟩::r) F L σ=XPv (Yi L (xv F x) n) d (BM P K r) F L σ:=rfl
theorem wX (d:Option Nat) (x:X) (o:Nat) (n:Option Nat):BM P K (⟨d,.fd x o n,none⟩::r) F L σ=XPv (fdA (xv F x) o n) d (BM P K r) F L σ:=rfl
theorem vM (d:Option Nat) (x:X) (a b:Option X):BM P K (⟨d,.ssl x a b,none⟩::r) F L σ=XPv (VS (xv F x) (a.map (xv F)) (b.map (xv F))) d (BM P K r) F L σ:=rfl
theorem vL (d:Option Nat) (x:X) (a b c:Option X) (n:Nat):BM P K (⟨d,.sls x a b c n,none⟩::r) F L σ=XPv (jO (xv F x) (a.map (xv F)) (b.map (xv F)) (c.map (xv F)) n) d (BM P K r) F L σ:=rfl
theorem rY (d:Option Nat) (ne:Bool) (x:X):BM P K (⟨d,.dA ne x,none⟩::r) F L σ=XPv (YF ne (xv F x)) d (BM P K r) F L σ:=rfl
theorem r3 (d:Option Nat) (ne:Bool) (n:Nat) (x y:X):BM P K (⟨d,.dP ne n x y,none⟩::r) F L σ=XPv (YL ne n (xv F x) (xv F y)) d (BM P K r) F L σ:=rfl
theorem vH (d:Option Nat) (b:Bool) (x y z:X):BM P K (⟨d,.mm3 b x y z,none⟩::r) F L σ=XPv ((mmA b (xv F x) (xv F y)).bind fun v=>mmA b v (xv F z)) d (BM P K r) F L σ:=rfl
theorem rT (d:Option Nat) (x:X):BM P K (⟨d,.kM x,none⟩::r) F L σ=XPv ((dvs (xv F x).cells).map fun ds=>.d (.ptr ds)) d (BM P K r) F L σ:=rfl
theorem wW (d:Option Nat) (k:EK) (xs:List X):BM P K (⟨d,.ex k xs,none⟩::r) F L σ=XEx k (xvs F xs) d (BM P K r) F L σ:=rfl
theorem rO (d:Option Nat) (args:List AV):XEx .cap args d K F L σ=XPv (exP .cap args) d K F L σ:=rfl
theorem rN (d:Option Nat) (args:List AV):XEx .b2s args d K F L σ=XPv (exP .b2s args) d K F L σ:=rfl
theorem rP (d:Option Nat) (args:List AV):XEx .usd args d K F L σ=XPv (exP .usd args) d K F L σ:=rfl
theorem rM (d:Nat) (t:Nat) (z:List AV):XEx (.alt t z) [] (some d) K F L σ=(Af z=true∧∀i,(σ.blk i=none∧σ.bt i=none)→K (put d (.gp i 0) F) L ((σ.AL i z).JY i (z.length,t))):=by
 simp only [XEx,EK.pure,AY,if_false,K9,true_and,ExR,An]
theorem XEx.ZW {d:Nat} {t n:Nat} {v:AV} (hn:v.At=true) (h1:Af v.cells=true) (h2:v.cells.length=n) (h:∀i,(σ.blk i=none∧σ.bt i=none)→K (put d (.gp i 0) F) L ((σ.AL i v.cells).JY i (n,t))):XEx (.ZW t n) [v] (some d) K F L σ:=by
 refine ⟨by simp [hn],?_⟩
 exact ⟨⟨h1,h2⟩,h⟩
theorem XEx.aI {d:Nat} {ne b:Bool} {v:AV} (hn:v.At=true) (hv:cO v=some b) (h:K (put d (.d (.bool (b != ne))) F) L σ):XEx (.aI ne) [v] (some d) K F L σ:=by
 refine ⟨by simp [hn],?_⟩
 show (match cO v with|some b=>_|none=>_)
 rw [hv];exact h
theorem XEx.apps {d:Option Nat} {e:Nat} {s:AV} {x:List UInt8} {rows:List (List DV)} {σ1:AN} (hn:s.At=true) (ha:ON σ e 1 s=some (rows,σ1)) (hl:rows.length+x.length≤140737488355328)
 (h:∀t,σ.tok t=false→K (An d (.own t e 1 (rows++BA x)) F) L (σ1.DJ t)):XEx (.apps e) [s,.d (.str x)] d K F L σ:=
 ⟨by rw [Bk,hn];rfl,rows,σ1,ha,hl,h⟩
theorem XEx.gK {d:Option Nat} {e size bytes:Nat} {z:List AV} {k:IntKind} {n:Nat} (h0:0 < n) (hb:bytes≤10000) (hn:n≤1000000000)
 (h:∀j,σ.blk j=none→K (An d (.ms j n size e) F) L (σ.AL j (Aj n z).flatten)):XEx (.gK e size bytes z) [.AW,.d (.int k n)] d K F L σ:=by
 refine ⟨rfl,by omega,?_,by omega,?_⟩
 · have h1:n * bytes≤1000000000 * 10000:=NR hn hb
   have h2:((n * bytes:Nat):Int)≤((1000000000 * 10000:Nat):Int):=Int.ofNat_le.2 h1
   rw [Int.natCast_mul] at h2
   exact Int.le_trans h2 (by decide)
 · simpa using h
theorem XEx.aQ {d:Option Nat} {e t:Nat} {s:List UInt8} {n:Int} (hl:n=s.length) (h0:s≠[]) (ht:σ.tok t=true) (h:K (An d (.d (.str s)) F) L (σ.Eg t)):XEx (.aQ e) [.bp t e s,.d (.int .i64 n)] d K F L σ:=
 ⟨rfl,⟨rfl,hl⟩,h0,ht,h⟩
theorem ZQ.mk {d:Option Nat} {e size bytes n:Nat} {s x:AV} {cs:List AV} {srows:List (List DV)} {σ1:AN} (h1:Rs σ e size s=some (n,cs,σ1)) (h2:x.rows=some srows)
 (h3:∀r∈srows,r.length=size) (h4:srows≠[]) (h5:n+srows.length≤1000000000) (hb:bytes≤10000)
 (h:∀j,σ.blk j=none→K (An d (.ms j (n+srows.length) size e) F) L (σ1.AL j (cs++Gb srows))):ZQ e size bytes s x d K F L σ:=
 ⟨n,cs,σ1,srows,h1,h2,h3,fun e=>absurd e h4,by simp only [maxLen];omega,by
   calc (n+srows.length) * bytes≤1000000000 * 10000:=NR h5 hb
    _≤140737488355328:=by decide,fun _=>h⟩
theorem Hh.mk {d:Option Nat} {e s n:Nat} {cs:List AV} (h:∀j,σ.blk j=none→K (An d (.ms j n s e) F) L (σ.AL j cs)):Hh e s n (some cs) d K F L σ:=⟨cs,rfl,.inl h⟩
theorem Hh.own {d:Option Nat} {e s n:Nat} {cs:List AV} {ds:List DV} (hd:dvs cs=some ds) (hn:0 < n) (h:∀t,σ.tok t=false→K (An d (.own t e s (chunk s n ds)) F) L (σ.DJ t)):Hh e s n (some cs) d K F L σ:=⟨cs,rfl,.inr ⟨ds,hd,hn,h⟩⟩
theorem oQ (n:Nat):Vn n none none=some (0,n):=by simp [Vn]
theorem kA.mk {d:Option Nat} {e s b:Nat} {z:List AV} (n:Nat) (hb:b * n≤281474976710656) (hn:n≤9223372036854775807) (h:∀i,σ.blk i=none→K (An d (.ms i n s e) F) L (σ.AL i (Aj n z).flatten)):
 kA e s b z (.d (.int .i64 n)) (.d (.int .i64 n)) d K F L σ:=
 ⟨.i64,.i64,n,rfl,rfl,by omega,by rw [← Int.natCast_mul];omega,by omega,fun i hi=>by simpa using h i hi⟩
theorem AG.mk {d:Option Nat} {f:FuncId} {args:List AV} {Q:AV→AN→Prop} (hn:args.all AV.At=true) (h:AT P f args σ Q) (hk:∀v σ',Q v σ'→K (An d v F) L σ'):
 AG P f args d K F L σ:=⟨hn,Q,h,hk⟩
theorem Vg.mk {d:Option Nat} {f:FuncId} {args:List AV} {v:AV} (hn:args.all AV.At=true) (h:AT P f args σ (fun v' σ'=>v'=v∧σ'=σ)) (hk:K (An d v F) L σ) (hv:v.At=true:=by rfl):
 Vg P f args d K F L σ:=⟨hn,v,⟨hv,h⟩,hk⟩
theorem NT.mk {d:Option Nat} {e size bytes:Nat} {s x:AV} {rows srows:List (List DV)} {σ1:AN} (h1:ON σ e size s=some (rows,σ1)) (h2:x.rows=some srows)
 (h3:∀r∈srows,r.length=size) (h4:rows.length+srows.length≤maxLen) (h5:(rows.length+srows.length) * bytes≤140737488355328)
 (h:∀t,σ.tok t=false→K (An d (.own t e size (rows++srows)) F) L (σ1.DJ t)):NT e size bytes s x d K F L σ:= .inl ⟨rows,σ1,srows,h1,h2,h3,h4,h5,h⟩
theorem NT.clip {d:Option Nat} {e size bytes:Nat} {x:AV} {rows srows:List (List DV)} (h2:x.rows=some srows)
 (h3:∀r∈rows,r.length=size) (h3':∀r∈srows,r.length=size) (h4:rows.length+srows.length≤1000000000) (hb:bytes≤10000)
 (h:K (An d (.d (.sl (rows++srows))) F) L σ):NT e size bytes (.clip rows) x d K F L σ:=
 .inr ⟨rows,srows,rfl,h2,h3,h3',by simp only [maxLen];omega,by
  calc (rows.length+srows.length) * bytes≤1000000000 * 10000:=NR h4 hb
   _≤140737488355328:=by decide,h⟩
theorem AT.args {f:FuncId} {args args':List AV} {Q:AV→AN→Prop} (h:AT P f args' σ Q) (hw:∀g vs,VRs g args vs→VRs g args' vs):AT P f args σ Q:=
 fun base g Pr w0 w vs hr hv=>h base g Pr w0 w vs hr (hw g vs hv)
def Cut (live:List Nat) (F0:Fm) (L0:Lm) (σ0:AN):CP:=fun F L σ=>WL live F=F0∧TW live L=L0∧σ=σ0
theorem dO {P:Program} {m m1 m':Machine} (h:step P m= .next m1) (hs:Steps P m m') (hne:m≠m'):Steps P m1 m':=by
 obtain ⟨n,hn⟩:=hs
 cases n with
 |zero=>simp only [runN] at hn;cases hn;exact absurd rfl hne
 |succ n=>simp only [runN,h] at hn;exact ⟨n,hn⟩
theorem Run.Co {cx:Cx} {KK:AV→AN→Prop} {k:List CI} {c:C} (h:Run cx KK (.again c::k) F L σ):Run cx KK (.code (.loop c)::k) F L σ:=by
 intro items base g lam Pr a w0 w b cs hi hf hb hk
 obtain ⟨p,ys,rfl,⟨p1,rfl,h1⟩,hys⟩:=hi.code
 obtain ⟨v,w',fr,hs,hfn,hl,rest⟩:=h (.inLoop p1::ys) base g lam Pr a w0 w b cs (.cons ⟨p1,rfl,h1⟩ hys) hf hb hk
 refine ⟨v,w',fr,.head step_loop (dO step_inLoop hs fun e=>?_),hfn,hl,rest⟩
 have h2:(lone (b.at a (.inLoop p1::ys)) cs w).gs=(lone fr cs w').gs:=by rw [e]
 simp only [lone,Array.mk.injEq,List.cons.injEq,Goroutine.mk.injEq] at h2
 have h3:(b.at a (.inLoop p1::ys)).mode=fr.mode:=by rw [h2.1.1]
 rw [hl.1] at h3
 cases h3
def Xg (v:AV) (A B:Prop):Prop:=
 match v with
 | .d (.bool b)=>(b=true→A)∧(b=false→B)
 |_=>False
theorem rJ (b:Bool) (A B:Prop):Xg (.d (.bool b)) A B=((b=true→A)∧(b=false→B)):=rfl
theorem rL (A B:Prop):Xg (.d (.bool true)) A B=A:=by simp [Xg]
theorem rK (A B:Prop):Xg (.d (.bool false)) A B=B:=by simp [Xg]
theorem Run.AM {cx:Cx} {KK:AV→AN→Prop} {k:List CI} {x:X} {t e:C} (h:Xg (xv F x) (Run cx KK (.code t::k) F L σ) (Run cx KK (.code e::k) F L σ)):Run cx KK (.code (.cond x t e)::k) F L σ:=by
 cases hx:xv F x<;>rw [hx] at h<;>try exact h.elim
 rename_i dv
 cases dv<;>try exact h.elim
 exact Run.cond hx h.1 h.2
mutual
def AV.plain:AV→AV
 | .AW=>.d (.sl [])
 | .Ei=>.d .Ei
 | .own _ _ _ rows=>.d (.sl rows)
 | .clip rows=>.d (.sl rows)
 | .agg cs=>.agg (AV.Ej cs)
 | .tup vs=>.tup (AV.Ej vs)
 |v=>v
def AV.Ej:List AV→List AV
 |[]=>[]
 |v::l=>AV.plain v::AV.Ej l
end
theorem Ys (x:DV):AV.plain (AV.d x)=(AV.d x):=by simp only [AV.plain]
theorem Sh:AV.plain AV.AW= .d (.sl []):=by simp only [AV.plain]
theorem jD (t e s:Nat) (r:List (List DV)):AV.plain (AV.own t e s r)= .d (.sl r):=by simp only [AV.plain]
theorem cY (r:List (List DV)):AV.plain (AV.clip r)= .d (.sl r):=by simp only [AV.plain]
theorem UX (r:List AV):AV.plain (AV.agg r)= .agg (AV.Ej r):=by simp only [AV.plain]
theorem mY (j o:Nat):AV.plain (AV.lp j o)=(AV.lp j o):=by simp only [AV.plain]
theorem mX (j o:Nat):AV.plain (AV.gp j o)=(AV.gp j o):=by simp only [AV.plain]
theorem mW (r:List DV) (o:Nat):AV.plain (AV.ep r o)=(AV.ep r o):=by simp only [AV.plain]
theorem c8:AV.plain AV.Ei= .d .Ei:=by simp only [AV.plain]
theorem mZ (i n s e:Nat):AV.plain (AV.ms i n s e)=(AV.ms i n s e):=by simp only [AV.plain]
theorem nA (i o n s e:Nat):AV.plain (AV.mv i o n s e)=(AV.mv i o n s e):=by simp only [AV.plain]
theorem mV (t e:Nat) (s:List UInt8):AV.plain (AV.bp t e s)=(AV.bp t e s):=by simp only [AV.plain]
theorem cZ:AV.plain AV.Nj=AV.Nj:=by simp only [AV.plain]
theorem plain_fn (f:FuncId) (x y:List AV):AV.plain (AV.fn f x y)=(AV.fn f x y):=by simp only [AV.plain]
theorem jE (x:List AV):AV.plain (AV.tup x)= .tup (AV.Ej x):=by simp only [AV.plain]
theorem aA:AV.plain AV.undef=AV.undef:=by simp only [AV.plain]
theorem MJ:∀(l:List AV) (i:Nat),(AV.Ej l)[i]?=(l[i]?).map AV.plain
 |[],i=>by simp [AV.Ej]
 |v::l,0=>by simp [AV.Ej]
 |v::l,i+1=>by simp [AV.Ej,MJ l i]
theorem Si:∀l:List AV,(AV.Ej l).length=l.length
 |[]=>rfl
 |v::l=>by simp [AV.Ej,Si l]
theorem WW {v:AV} (h:v.CF=true):v.plain.CF=true:=by cases v<;>first|rfl|(cases h;done)
theorem VR.plain {g:Gh} {x:AV} {v:Value} (h:VR g x v):VR g x.plain v:=by
 induction h with
 |d h=>simpa [AV.plain] using VR.d h
 |AW=>exact .d (.nil (CC _) (fun _=>rfl))
 |own h _ _=>exact .d h
 |clip h=>exact .d h
 |@agg cs vs hl hc _ ih=>
  refine .agg (by rw [Si];exact hl) (fun c hcm=>?_) (fun i c v hci hvi=>?_)
  · obtain ⟨i,hi,rfl⟩:=CY hcm
    have:=MJ cs i
    rw [Ap hi] at this
    cases hcs:cs[i]? with
    |none=>rw [hcs] at this;cases this
    |some c'=>rw [hcs] at this;simp only [CR,AP] at this;rw [this];exact WW (hc c' (Ah hcs))
  · rw [MJ] at hci
    cases hcs:cs[i]? with
    |none=>rw [hcs] at hci;cases hci
    |some c'=>rw [hcs] at hci;simp only [CR,AP] at hci;rw [← hci];exact ih i c' v hcs hvi
 |gp h=>simpa [AV.plain] using VR.gp h
 |ep hi hr=>simpa [AV.plain] using VR.ep hi hr
 |Ei=>exact .d .Ei
 |Nj=>simpa [AV.plain] using VR.Nj
 |ms h hr hn hm=>simpa [AV.plain] using VR.ms h hr hn hm
 |mv h hr hn hm ho=>simpa [AV.plain] using VR.mv h hr hn hm ho
 |bp h k=>simpa [AV.plain] using VR.bp h k
 |fn hl hl' h h' _ _=>simpa [AV.plain] using VR.fn hl hl' h h'
 |@tup cs vs hl _ ih=>
  refine .tup (by rw [Si];exact hl) (fun i c v hci hvi=>?_)
  rw [MJ] at hci
  cases hcs:cs[i]? with
  |none=>rw [hcs] at hci;cases hci
  |some c'=>rw [hcs] at hci;simp only [CR,AP] at hci;rw [← hci];exact ih i c' v hcs hvi
 |undef=>simpa [AV.plain] using VR.undef
theorem VRs.plain {g:Gh} {xs:List AV} {vs:List Value} (h:VRs g xs vs):VRs g (AV.Ej xs) vs:=by
 induction h with
 |nil=>exact .nil
 |cons h _ ih=>exact .cons h.plain ih
theorem AT.plain {f:FuncId} {args:List AV} {Q:AV→AN→Prop} (h:AT P f (AV.Ej args) σ Q):AT P f args σ Q:=
 fun base g Pr w0 w vs hr hv=>h base g Pr w0 w vs hr hv.plain
def sQ (o:Option AV) (K:AV→AN→Prop) (σ:AN):Prop:=
 match o with
 |some v=>K v σ
 |none=>False
theorem j3 (v:AV) (K:AV→AN→Prop) (σ:AN):sQ (some v) K σ=K v σ:=rfl
theorem Run.Ag {cx:Cx} {KK:AV→AN→Prop} {k:List CI} {σ2:AN} (hg:Good cx) (hσ:σ2.le σ) (h:sQ ((Yx F L σ cx.rs).map AV.plain) KK σ2):Run cx KK (.code .ret::k) F L σ:=by
 cases hr:Yx F L σ cx.rs with
 |none=>rw [hr] at h;exact h.elim
 |some v=>rw [hr] at h;exact Run.ret hg hr (fun _ _ h=>h.plain) hσ h
theorem Run.Ih {cx:Cx} {KK:AV→AN→Prop} {k:List CI} {σ2:AN} (hg:Good cx) (hσ:σ2.le σ) (h:sQ (Yx F L σ cx.rs) KK σ2):Run cx KK (.code .ret::k) F L σ:=by
 cases hr:Yx F L σ cx.rs with
 |none=>rw [hr] at h;exact h.elim
 |some v=>rw [hr] at h;exact Run.ret hg hr (fun _ _ h=>h) hσ h
theorem AO (σ:AN) (i j:Nat) (cs:List AV):(σ.AL i cs).blk j=if j=i then some cs else σ.blk j:=rfl
theorem A1 (σ:AN) (i:Nat) (cs ds:List AV):(σ.AL i cs).AL i ds=σ.AL i ds:=by
 unfold AN.AL
 congr 1
 funext j
 by_cases h:j=i<;>simp [h]
theorem Qu {σ:AN} {i:Nat} {cs:List AV} (h:σ.blk i=some cs):σ.AL i cs=σ:=by
 unfold AN.AL
 cases σ
 congr 1
 funext j
 split
 · rename_i e;subst e;exact h.symm
 · rfl
theorem F8 (σ:AN) (t i:Nat):(σ.DJ t).blk i=σ.blk i:=rfl
theorem bZ (σ:AN) (t i:Nat):(σ.Eg t).blk i=σ.blk i:=rfl
theorem AN.le_trans {a b c:AN} (h:a.le b) (k:b.le c):a.le c:=⟨fun i cs x=>k.blk i cs (h.blk i cs x),fun t x=>k.tok t (h.tok t x),h.gt.trans k.gt,fun i x hx=>k.bt i x (h.bt i x hx)⟩
theorem Ek {σ:AN} {i:Nat} {cs:List AV} (h:σ.blk i=none):σ.le (σ.AL i cs):=
 ⟨fun j ds hj=>by
   have:j≠i:=fun e=>by rw [e,h] at hj;cases hj
   rw [AO,if_neg this];exact hj,fun _ h=>h,rfl,fun _ _ h=>h⟩
structure Ec (σ:AN) (e s:Nat) (rows:List (List DV)) (v:AV) (σ':AN):Prop where
 app:∃σ1,ON σ' e s v=some (rows,σ1)∧σ.le σ1
 le:σ.le σ'
 plain:v.plain= .d (.sl rows)
 len:Rf v=some (.d (.int .i64 rows.length))
 cell:v.CF=true
 At:v.At=true
 BQ:∀k,v.BQ k=false
 dv:v.dv=some (.sl rows)
 cells:v.cells=[v]
theorem Ec.nil (σ:AN) (e s:Nat):Ec σ e s [] .AW σ:=
 ⟨⟨σ,rfl,AN.le_refl σ⟩,AN.le_refl σ,rfl,rfl,rfl,rfl,fun _=>rfl,rfl,rfl⟩
theorem Ec.own {σ σ1 σ':AN} {e s t:Nat} {rows:List (List DV)} (hle:σ.le σ1) (hle':σ.le σ') (ht:σ'.tok t=false):Ec σ e s rows (.own t e s rows) (σ1.DJ t):=by
 have hnt:σ.tok t=false:=by
  cases h:σ.tok t with
  |false=>rfl
  |true=>rw [hle'.tok t h] at ht;cases ht
 refine ⟨⟨(σ1.DJ t).Eg t,by simp [ON,AN.DJ],⟨fun i cs h=>hle.blk i cs h,fun t' h=>?_,hle.gt,hle.bt⟩⟩,⟨fun i cs h=>hle.blk i cs h,fun t' h=>?_,hle.gt,hle.bt⟩,rfl,rfl,rfl,rfl,fun _=>rfl,rfl,rfl⟩
 · have hne:t'≠t:=fun e=>by rw [e,hnt] at h;cases h
   simp [AN.Eg,AN.DJ,hne,hle.tok t' h]
 · have hne:t'≠t:=fun e=>by rw [e,hnt] at h;cases h
   simp [AN.DJ,hne,hle.tok t' h]
theorem NT.own {σ0:AN} {d:Option Nat} {e size bytes:Nat} {s x:AV} {rows srows:List (List DV)} (ho:Ec σ0 e size rows s σ) (h2:x.rows=some srows)
 (h3:∀r∈srows,r.length=size) (h4:rows.length+srows.length≤1000000000) (hb:bytes≤10000)
 (h:∀v σ',Ec σ0 e size (rows++srows) v σ'→(∀i,σ'.blk i=σ.blk i)→K (An d v F) L σ'):NT e size bytes s x d K F L σ:=by
 obtain ⟨σ1,ha,hl⟩:=ho.app
 refine NT.mk ha h2 h3 (by simp only [maxLen];omega) ?_ (fun t ht=>h _ _ (Ec.own hl ho.le ht) (fun i=>?_))
 · calc (rows.length+srows.length) * bytes≤1000000000 * 10000:=NR h4 hb
    _≤140737488355328:=by decide
 · rw [F8]
   unfold ON at ha
   split at ha
   · cases ha;rfl
   · split at ha
     · cases ha;rfl
     · cases ha
   · cases ha
variable {cx:Cx} {KK:AV→AN→Prop} {k:List CI}
theorem Run.facts {p:Prop} (hp:∀base g lam Pr a w0 w,BR base g lam Pr cx.N F L σ a w0 w→p) (h:p→Run cx KK k F L σ):Run cx KK k F L σ:=
 fun items base g lam Pr a w0 w b cs hi hf hb hk=>h (hp base g lam Pr a w0 w hf) items base g lam Pr a w0 w b cs hi hf hb hk
def AV.FN:AV→Prop
 | .d (.sl rows)=>rows.length≤9223372036854775807
 | .d (.str s)=>s.length≤9223372036854775807
 | .d (.int k n)=>k.min≤n∧n≤k.max
 | .own _ _ _ rows=>rows.length≤9223372036854775807
 | .clip rows=>rows.length≤9223372036854775807
 |_=>True
theorem VR.FN {g:Gh} {x:AV} {v:Value} (h:VR g x v):x.FN:=by
 cases h with
 |d h=>
  cases h with
  |int h=>exact h
  |bool=>trivial
  |str h=>exact h
  |nil=>simp [AV.FN]
  |sl hc hm _ _ _=>exact Az hc hm
  |ptr=>trivial
  |Ei=>trivial
 |own h _ _=>obtain ⟨_,_,_,h2⟩:=h.Jc;exact h2
 |clip h=>obtain ⟨_,_,_,h2⟩:=h.Jc;exact h2
 |_=>trivial
theorem SV.FN {g:Gh} {lam:Nat→Option Nat} {x:AV} {v:Value} (h:SV g lam x v):x.FN:=by
 cases x<;>first|exact VR.FN h|trivial
theorem Run.slot (s:Nat) (h:(F s).FN→Run cx KK k F L σ):Run cx KK k F L σ:=
 Run.facts (fun _ _ _ _ _ _ _ hf=>(hf.tm s).FN) h
theorem Run.cell (j o:Nat) {cs:List AV} {c:AV} (hL:L j=some cs) (hc:cs[o]?=some c) (h:c.FN→Run cx KK k F L σ):Run cx KK k F L σ:=
 Run.facts (fun _ _ _ _ _ _ _ hf=>by
  obtain ⟨_,b,vs,ty,_,_,_,hr⟩:=hf.loc j cs hL
  obtain ⟨v,_,hv⟩:=hr.at o c hc
  exact hv.FN) h
end Go.Ab
