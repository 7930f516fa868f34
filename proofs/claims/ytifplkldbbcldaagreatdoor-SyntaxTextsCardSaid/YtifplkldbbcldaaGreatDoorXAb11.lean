/- Compact code, its runs at the abstract level, and contracts out of runs. Equations that run compact code at the abstract level. Conditions: none. -/
import Derived.Scope
import Derived.Test.YtifplkldbbcldaaGreatDoorXAb10d
set_option linter.unusedSimpArgs false
set_option linter.unusedVariables false
set_option maxRecDepth 4000
set_option maxHeartbeats 8000000
open List renaming range→Hs,all_cons→Bi,getD_eq_getElem?_getD→So,getElem?_eq_some_iff→A8,mem_cons→By,all_nil→K0,replicate→Ag,getElem_of_mem→CW,getElem?_eq_getElem→Ao,mem_of_getElem?→Ai
open Option.some renaming injEq→AP
open Prod.mk renaming injEq→BW
open Option renaming getD_some→PJ,map_eq_some_iff→AJ,bind_eq_some_iff→AB,bind_eq_bind→AR,map_some→CQ
open Go renaming undef→CY
open Bool renaming and_eq_true→AK,false_eq_true→AY
open Nat renaming le_refl→A7,mul_le_mul→NL,zero_le→CB,le_trans→At
open Array renaming replicate→EO,getD_eq_getD_getElem?→CX
namespace Go.Ab
open Go.RowKit
inductive C where
 |skip
 |reg (ops:List Q) (live:List Nat)
 |Q9 (t:QT) (live:List Nat)
 |seq (x y:C)
 |cond (x:X) (t e:C)
 |block (id:Nat) (c:C)
 |loop (c:C)
 |exit (id:Nat)
 |ret
 |scope (c:C)
 |bad
inductive CI where
 |code (c:C)
 |blk (id:Nat)
 |scp
 |again (c:C)
def bD (P:Program) (N:Nat) (esc:List Nat) (pf:List FuncId) (live:List Nat) (pt:PT) (ops:Array Oper):Option C:=
 match pt with
 | .done=>(dS P N esc pf (Hs ops.size) ops).map fun q=>.reg q live
 |pt=>(Vg P N esc pf pt ops).map fun t=>match lin t with
  |some q=>.reg q live
  |none=>.Q9 t live
def GQ (P:Program) (N:Nat) (esc:List Nat) (pf:List FuncId):Code→List (List Nat×PT)→Option (C×List (List Nat×PT))
 | .skip,ct=>some (.skip,ct)
 | .region _ ops false,(live,_)::ct=>some (((Lo P N esc ops (Hs ops.size)).map fun q=>C.reg q live).getD .bad,ct)
 | .region _ ops true,(live,pt)::ct=>some ((bD P N esc pf live pt ops).getD .bad,ct)
 | .seq x y,ct=>(GQ P N esc pf x ct).bind fun r=>(GQ P N esc pf y r.2).map fun r'=>(.seq r.1 r'.1,r'.2)
 | .cond c t e,ct=>(xo c).bind fun c'=>(GQ P N esc pf t ct).bind fun r=>(GQ P N esc pf e r.2).map fun r'=>(.cond c' r.1 r'.1,r'.2)
 | .block id c,ct=>(GQ P N esc pf c ct).map fun r=>(.block id r.1,r.2)
 | .loop c,ct=>(GQ P N esc pf c ct).map fun r=>(.loop r.1,r.2)
 | .exit id,ct=>some (.exit id,ct)
 | .ret,ct=>some (.ret,ct)
 | .scope c,ct=>(GQ P N esc pf c ct).map fun r=>(.scope r.1,r.2)
 | .label _,ct=>some (.skip,ct)
 |_,_=>none
inductive RV where
 |t (n:Nat)
 |c (n:Nat) (k:Option Nat)
def U6 (P:Program):List ResultVar→Option (List RV)
 |[]=>some []
 | .tmp n::l=>do some (.t n::(← U6 P l))
 | .cell n t::l=>do
  let k ← ldN P t
  some (.c n k::(← U6 P l))
def rvA (F:Fm) (L:Lm) (σ:AN):RV→Option AV
 | .t n=>some (F n)
 | .c n k=>ldA L σ (F n) k
def cO (F:Fm) (L:Lm) (σ:AN):List RV→Option (List AV)
 |[]=>some []
 |r::l=>do some ((← rvA F L σ r)::(← cO F L σ l))
def Yk (F:Fm) (L:Lm) (σ:AN) (rs:List RV):Option AV:=
 (cO F L σ rs).bind fun vs=>if vs.all AV.As then (match vs with|[v]=>some v|vs=>some (.tup vs)) else none
def Vw (ks:List Nat) (F:Fm):Fm:=fun s=>if s∈ks then F s else .undef
def TQ (ks:List Nat) (L:Lm):Lm:=fun s=>if s∈ks then L s else none
variable {P:Program} {base N:Nat} {g g':Gh} {Pr:Nat→Prop} {σ σ':AN} {w0 w w':World} {lam:Nat→Option Nat} {F F':Fm} {L L':Lm} {a:Act}
theorem BQ.dG (h:BQ base g lam Pr N F L σ a w0 w) (hF:∀s,F' s=F s∨F' s= .undef) (hL:∀k cs,L' k=some cs→L k=some cs) (hσ:σ'.le σ):BQ base g lam Pr N F' L' σ' a w0 w:=by
 refine ⟨fun s=>?_,h.sz,h.df,fun k cs hk=>h.loc k cs (hL k cs hk),h.inj,h.npr,h.rel.less hσ⟩
 rcases hF s with e|e
 · rw [e];exact h.tm s
 · rw [e];exact VR.undef
theorem BQ.kept (h:BQ base g lam Pr N F L σ a w0 w) (ks:List Nat):BQ base g lam Pr N (Vw ks F) (TQ ks L) σ a w0 w:=
 h.dG (fun s=>by simp only [Vw];split<;>simp) (fun k cs hk=>by simp only [TQ] at hk;split at hk<;>simp_all) (AN.le_refl σ)
structure Cx where
 P:Program
 f:FuncId
 fn:Func
 N:Nat
 esc:List Nat
 pf:List FuncId
 rs:List RV
def RC (cx:Cx):C→Code→Prop
 | .skip,k=>k= .skip∨∃l,k= .label l
 | .scope c,k=>∃p,k= .scope p∧RC cx c p
 | .reg ops _,k=>∃id arr,(k= .region id arr false∧Lo cx.P cx.N cx.esc arr (Hs arr.size)=some ops)∨(k= .region id arr true∧∃order,dS cx.P cx.N cx.esc cx.pf order arr=some ops)∨(k= .region id arr true∧∃pt t,Vg cx.P cx.N cx.esc cx.pf pt arr=some t∧lin t=some ops)
 | .Q9 t _,k=>∃id arr pt,k= .region id arr true∧Vg cx.P cx.N cx.esc cx.pf pt arr=some t
 | .seq x y,k=>∃p q,k= .seq p q∧RC cx x p∧RC cx y q
 | .cond x t e,k=>∃c p q,k= .cond c p q∧xo c=some x∧RC cx t p∧RC cx e q
 | .block id c,k=>∃p,k= .block id p∧RC cx c p
 | .loop c,k=>∃p,k= .loop p∧RC cx c p
 | .exit id,k=>k= .exit id
 | .ret,k=>k= .ret
 | .bad,_=>True
theorem AZ (cx:Cx):∀(k:Code) (ct:List (List Nat×PT)) (c:C) (ct':List (List Nat×PT)),GQ cx.P cx.N cx.esc cx.pf k ct=some (c,ct')→RC cx c k
 | .skip,ct,c,ct',h=>by simp only [GQ,AP,BW] at h;rw [← h.1];exact .inl rfl
 | .region id ops dr,ct,c,ct',h=>by
  cases ct with
  |nil=>cases dr<;>simp only [GQ] at h<;>cases h
  |cons lo ct=>
   obtain ⟨live,order⟩:=lo
   cases dr
   · simp only [GQ,AP,BW] at h
     obtain ⟨rfl,_⟩:=h
     cases hq:Lo cx.P cx.N cx.esc ops (Hs ops.size) with
     |none=>exact trivial
     |some qs=>exact ⟨id,ops,.inl ⟨rfl,hq⟩⟩
   · simp only [GQ,AP,BW] at h
     obtain ⟨rfl,_⟩:=h
     cases hq:bD cx.P cx.N cx.esc cx.pf live order ops with
     |none=>exact trivial
     |some c'=>
     simp only [PJ]
     unfold bD at hq
     split at hq
     · simp only [AJ] at hq
       obtain ⟨qs,hq',rfl⟩:=hq
       exact ⟨id,ops,.inr (.inl ⟨rfl,_,hq'⟩)⟩
     · simp only [AJ] at hq
       obtain ⟨t,ht,rfl⟩:=hq
       cases hl:lin t with
       |some q=>exact ⟨id,ops,.inr (.inr ⟨rfl,_,t,ht,hl⟩)⟩
       |none=>exact ⟨id,ops,_,rfl,ht⟩
 | .seq x y,ct,c,ct',h=>by
  simp only [GQ,AB,AJ,BW] at h
  obtain ⟨⟨x',c1⟩,hx,⟨y',c2⟩,hy,rfl,_⟩:=h
  exact ⟨x,y,rfl,AZ cx x _ _ _ hx,AZ cx y _ _ _ hy⟩
 | .cond c t e,ct,c2,ct',h=>by
  simp only [GQ,AB,AJ,BW] at h
  obtain ⟨x,hx,⟨t',c1⟩,ht,⟨e',c3⟩,he,rfl,_⟩:=h
  exact ⟨c,t,e,rfl,hx,AZ cx t _ _ _ ht,AZ cx e _ _ _ he⟩
 | .block id p,ct,c,ct',h=>by
  simp only [GQ,AJ,BW] at h
  obtain ⟨⟨c',c1⟩,hc,rfl,_⟩:=h
  exact ⟨p,rfl,AZ cx p _ _ _ hc⟩
 | .loop p,ct,c,ct',h=>by
  simp only [GQ,AJ,BW] at h
  obtain ⟨⟨c',c1⟩,hc,rfl,_⟩:=h
  exact ⟨p,rfl,AZ cx p _ _ _ hc⟩
 | .exit id,ct,c,ct',h=>by simp only [GQ,AP,BW] at h;rw [← h.1];rfl
 | .ret,ct,c,ct',h=>by simp only [GQ,AP,BW] at h;rw [← h.1];rfl
 | .rangeFunc ..,ct,c,ct',h=>by simp only [GQ] at h;cases h
 | .scope p,ct,c,ct',h=>by
  simp only [GQ,AJ,BW] at h
  obtain ⟨⟨c',c1⟩,hc,rfl,_⟩:=h
  exact ⟨p,rfl,AZ cx p _ _ _ hc⟩
 | .label l,ct,c,ct',h=>by simp only [GQ,AP,BW] at h;rw [← h.1];exact .inr ⟨l,rfl⟩
 | .goto _,ct,c,ct',h=>by simp only [GQ] at h;cases h
 | .refuse _,ct,c,ct',h=>by simp only [GQ] at h;cases h
def RI (cx:Cx):CI→Item→Prop
 | .code c,y=>∃k,y= .code k∧RC cx c k
 | .blk id,y=>y= .inBlock id
 | .scp,y=>∃k,y= .inScope k
 | .again c,y=>∃k,y= .inLoop k∧RC cx c k
inductive RIs (cx:Cx):List CI→List Item→Prop
 |nil:RIs cx [] []
 |cons {x:CI} {y:Item} {xs:List CI} {ys:List Item} (h:RI cx x y) (hs:RIs cx xs ys):RIs cx (x::xs) (y::ys)
def Good (cx:Cx):Prop:=cx.P.funcs[cx.f]?=some cx.fn∧U6 cx.P cx.fn.results.toList=some cx.rs
def Run (cx:Cx) (K:AV→AN→Prop) (todo:List CI) (F:Fm) (L:Lm) (σ:AN):Prop:=
 ∀(items:List Item) (base:Nat) (g:Gh) (lam:Nat→Option Nat) (Pr:Nat→Prop) (a:Act) (w0 w:World) (b:Frame) (cs:List Frame),
  RIs cx todo items→BQ base g lam Pr cx.N F L σ a w0 w→b.fn=cx.f→b.kind= .normal→
  ∃v w' fr,Steps cx.P (lone (b.at a items) cs w) (lone fr cs w')∧fr.fn=cx.f∧fr.leaving cx.P w' (.returned v)∧
   ∃av g' σ',VR g' av v∧Rel base g' Pr σ' w0 w'∧g.le g'∧KP Pr w w'∧K av σ'
variable {cx:Cx} {K:AV→AN→Prop} {k:List CI}
theorem Run.dG (hF:∀s,F' s=F s∨F' s= .undef) (hL:∀k cs,L' k=some cs→L k=some cs) (hσ:σ'.le σ) (h:Run cx K k F' L' σ'):Run cx K k F L σ:=
 fun items base g lam Pr a w0 w b cs hi hf hb hk=>h items base g lam Pr a w0 w b cs hi (hf.dG hF hL hσ) hb hk
theorem Run.LY {k':List CI}
 (hs:∀items,RIs cx k items→∃items',RIs cx k' items'∧∀(b:Frame) (a:Act) (cs:List Frame) (w:World),step cx.P (lone (b.at a items) cs w)= .next (lone (b.at a items') cs w))
 (h:Run cx K k' F L σ):Run cx K k F L σ:=by
 intro items base g lam Pr a w0 w b cs hi hf hb hk
 obtain ⟨items',hi',hst⟩:=hs items hi
 obtain ⟨v,w',fr,hss,rest⟩:=h items' base g lam Pr a w0 w b cs hi' hf hb hk
 exact ⟨v,w',fr,.head (hst b a cs w) hss,rest⟩
theorem RIs.code {c:C} {items:List Item} (h:RIs cx (.code c::k) items):∃p ys,items= .code p::ys∧RC cx c p∧RIs cx k ys:=by
 cases h with
 |cons hy hys=>obtain ⟨p,rfl,hp⟩:=hy;exact ⟨p,_,rfl,hp,hys⟩
theorem RIs.LX {c:C} {p:Code} {ys:List Item} (hc:RC cx c p) (h:RIs cx k ys):RIs cx (.code c::k) (.code p::ys):= .cons ⟨p,rfl,hc⟩ h
theorem Run.skip (h:Run cx K k F L σ):Run cx K (.code .skip::k) F L σ:=
 h.LY fun items hi=>by
  obtain ⟨p,ys,rfl,hp,hys⟩:=hi.code
  rcases hp with rfl|⟨l,rfl⟩
  · exact ⟨ys,hys,fun b a cs w=>step_skip⟩
  · exact ⟨ys,hys,fun b a cs w=>step_label⟩
theorem Run.scope {c:C} (h:Run cx K (.code c::.scp::k) F L σ):Run cx K (.code (.scope c)::k) F L σ:=
 h.LY fun items hi=>by
  obtain ⟨p,ys,rfl,⟨p1,rfl,h1⟩,hys⟩:=hi.code
  exact ⟨_,.LX h1 (.cons ⟨p1,rfl⟩ hys),fun b a cs w=>step_scope⟩
theorem Run.scp (h:Run cx K k F L σ):Run cx K (.scp::k) F L σ:=
 h.LY fun items hi=>by
  cases hi with
  |cons hy hys=>obtain ⟨p,rfl⟩:=hy;exact ⟨_,hys,fun b a cs w=>step_inScope⟩
theorem Run.seq {x y:C} (h:Run cx K (.code x::.code y::k) F L σ):Run cx K (.code (.seq x y)::k) F L σ:=
 h.LY fun items hi=>by
  obtain ⟨p,ys,rfl,⟨p1,p2,rfl,h1,h2⟩,hys⟩:=hi.code
  exact ⟨_,.LX h1 (.LX h2 hys),fun b a cs w=>step_seq⟩
theorem Run.block {id:Nat} {c:C} (h:Run cx K (.code c::.blk id::k) F L σ):Run cx K (.code (.block id c)::k) F L σ:=
 h.LY fun items hi=>by
  obtain ⟨p,ys,rfl,⟨p1,rfl,h1⟩,hys⟩:=hi.code
  exact ⟨_,.LX h1 (.cons rfl hys),fun b a cs w=>step_block⟩
theorem Run.blk {id:Nat} (h:Run cx K k F L σ):Run cx K (.blk id::k) F L σ:=
 h.LY fun items hi=>by
  cases hi with
  |cons hy hys=>cases hy;exact ⟨_,hys,fun b a cs w=>step_inBlock⟩
theorem Run.loop {c:C} (h:Run cx K (.code c::.again c::k) F L σ):Run cx K (.code (.loop c)::k) F L σ:=
 h.LY fun items hi=>by
  obtain ⟨p,ys,rfl,⟨p1,rfl,h1⟩,hys⟩:=hi.code
  exact ⟨_,.LX h1 (.cons ⟨p1,rfl,h1⟩ hys),fun b a cs w=>step_loop⟩
theorem Run.again {c:C} (h:Run cx K (.code c::.again c::k) F L σ):Run cx K (.again c::k) F L σ:=
 h.LY fun items hi=>by
  cases hi with
  |cons hy hys=>obtain ⟨p1,rfl,h1⟩:=hy;exact ⟨_,.LX h1 (.cons ⟨p1,rfl,h1⟩ hys),fun b a cs w=>step_inLoop⟩
def TI (id:Nat):List CI→Option (List CI)
 | .blk id'::k=>if id'=id then some k else TI id k
 |_::k=>TI id k
 |[]=>none
theorem Jx {id:Nat}:∀(k:List CI) (items:List Item) (k':List CI),RIs cx k items→TI id k=some k'→∃items',exitTo id items=some items'∧RIs cx k' items'
 |[],_,_,_,h=>by cases h
 |x::k,items,k',hi,h=>by
  cases hi with
  |@cons _ y _ ys hy hys=>
   cases x with
   |code c=>
    obtain ⟨p,rfl,_⟩:=hy
    obtain ⟨i',h1,h2⟩:=Jx k ys k' hys (by simpa [TI] using h)
    exact ⟨i',by simpa [exitTo] using h1,h2⟩
   |again c=>
    obtain ⟨p,rfl,_⟩:=hy
    obtain ⟨i',h1,h2⟩:=Jx k ys k' hys (by simpa [TI] using h)
    exact ⟨i',by simpa [exitTo] using h1,h2⟩
   |scp=>
    obtain ⟨p,rfl⟩:=hy
    obtain ⟨i',h1,h2⟩:=Jx k ys k' hys (by simpa [TI] using h)
    exact ⟨i',by simpa [exitTo] using h1,h2⟩
   |blk id'=>
    cases hy
    simp only [TI] at h
    split at h
    · rename_i e
      cases h
      exact ⟨ys,by simp [exitTo,e],hys⟩
    · rename_i e
      obtain ⟨i',h1,h2⟩:=Jx k ys k' hys h
      exact ⟨i',by simpa [exitTo,e] using h1,h2⟩
theorem Run.exit {id:Nat} {k':List CI} (he:TI id k=some k') (h:Run cx K k' F L σ):Run cx K (.code (.exit id)::k) F L σ:=
 h.LY fun items hi=>by
  obtain ⟨p,ys,rfl,hp,hys⟩:=hi.code
  cases hp
  obtain ⟨i',h1,h2⟩:=Jx k ys k' hys he
  exact ⟨i',h2,fun b a cs w=>step_exit h1⟩
theorem Run.cond {x:X} {t e:C} {b:Bool} (hx:xv F x= .d (.bool b)) (ht:b=true→Run cx K (.code t::k) F L σ) (he:b=false→Run cx K (.code e::k) F L σ):
 Run cx K (.code (.cond x t e)::k) F L σ:=by
 intro items base g lam Pr a w0 w fb cs hi hf hb hk
 obtain ⟨p,ys,rfl,⟨c,p1,p2,rfl,hc,h1,h2⟩,hys⟩:=hi.code
 have hv:=Aa hc hf
 rw [hx] at hv
 have hev:a.eval c= .bool b:=by generalize a.eval c=vc at hv;cases hv with|d hh=>cases hh;rfl
 cases b with
 |true=>
  obtain ⟨v,w',fr,hs,rest⟩:=ht rfl _ base g lam Pr a w0 w fb cs (.LX h1 hys) hf hb hk
  exact ⟨v,w',fr,.head (step_cond hev) hs,rest⟩
 |false=>
  obtain ⟨v,w',fr,hs,rest⟩:=he rfl _ base g lam Pr a w0 w fb cs (.LX h2 hys) hf hb hk
  exact ⟨v,w',fr,.head (step_cond hev) hs,rest⟩
def fJ (cx:Cx) (K:AV→AN→Prop) (k:List CI) (live:List Nat):CO:=fun F L σ=>Run cx K k (Vw live F) (TQ live L) σ
theorem Run.reg {ops:List Q} {live:List Nat} (hm:cx.P.follows .mixedOrders=true) (h:BI cx.P (fJ cx K k live) ops F L σ):Run cx K (.code (.reg ops live)::k) F L σ:=by
 intro items base g lam Pr a w0 w b cs hi hf hb hk
 obtain ⟨p,ys,rfl,⟨id,arr,hp⟩,hys⟩:=hi.code
 have hw:p.wp cx.P (fun e a' w'=>e= .normal∧E3 base Pr cx.N w0 g w (fJ cx K k live) a' w') a w:=by
  rcases hp with ⟨rfl,hc⟩|⟨rfl,order,hc⟩|⟨rfl,pt,t,hc,hl⟩
  · exact wp_region (Ww cx.P arr cx.N cx.esc (fJ cx K k live) _ _ base g lam Pr F L σ a w0 w hc h hf (fun _ _ h=>⟨rfl,h⟩))
  · exact bJ hm hc h hf
  · exact U7 hm hc (lL t ops F L σ hl h) hf
 obtain ⟨e,a',w',⟨he,g',lam',F',L',σ',hle,hkp,hf',hK⟩,harr⟩:=hw b ys cs
 subst he
 obtain ⟨v,w2,fr,hs,hfn,hl,av,g2,σ2,hvr,hrel,hle2,hkp2,hk2⟩:=hK ys base g' lam' Pr a' w0 w' b cs hys (hf'.kept live) hb hk
 exact ⟨v,w2,fr,Steps.trans harr hs,hfn,hl,av,g2,σ2,hvr,hrel,Gh.le_trans hle hle2,hkp.trans hkp2,hk2⟩
theorem Run.Q9 {t:QT} {live:List Nat} (hm:cx.P.follows .mixedOrders=true) (h:XT cx.P (fJ cx K k live) false t F L σ):Run cx K (.code (.Q9 t live)::k) F L σ:=by
 intro items base g lam Pr a w0 w b cs hi hf hb hk
 obtain ⟨p,ys,rfl,⟨id,arr,pt,rfl,hc⟩,hys⟩:=hi.code
 have hw:(Code.region id arr true).wp cx.P (fun e a' w'=>e= .normal∧E3 base Pr cx.N w0 g w (fJ cx K k live) a' w') a w:=U7 hm hc h hf
 obtain ⟨e,a',w',⟨he,g',lam',F',L',σ',hle,hkp,hf',hK⟩,harr⟩:=hw b ys cs
 subst he
 obtain ⟨v,w2,fr,hs,hfn,hl,av,g2,σ2,hvr,hrel,hle2,hkp2,hk2⟩:=hK ys base g' lam' Pr a' w0 w' b cs hys (hf'.kept live) hb hk
 exact ⟨v,w2,fr,Steps.trans harr hs,hfn,hl,av,g2,σ2,hvr,hrel,Gh.le_trans hle hle2,hkp.trans hkp2,hk2⟩
theorem UU (hf:BQ base g lam Pr N F L σ a w0 w):∀(l:List ResultVar) (rs:List RV) (vs:List AV),U6 P l=some rs→cO F L σ rs=some vs→vs.all AV.As=true→
 ∃xs:List Value,(l.mapM fun| .tmp t=>pure (a.tmps.getD t CY)| .cell ad t=>do loadVar t (← asAddr (a.tmps.getD ad CY)):Sem (List Value)).run P w= .ok xs w∧VRs g vs xs
 |[],rs,vs,hc,hv,_=>by
  simp only [U6,AP] at hc;subst hc
  simp only [cO,AP] at hv;subst hv
  exact ⟨[],by simp,.nil⟩
 | .tmp n::l,rs,vs,hc,hv,hn=>by
  simp only [U6,AR,AB] at hc
  obtain ⟨rs',hrs,he⟩:=hc
  cases he
  simp only [cO,AR,AB,rvA] at hv
  obtain ⟨v,hv1,vs',hvs,he⟩:=hv
  cases he;cases hv1
  simp only [Bi,AK] at hn
  obtain ⟨xs,hx,hr⟩:=UU hf l rs' vs' hrs hvs hn.2
  exact ⟨a.tmps.getD n CY::xs,by simp only [List.mapM_cons,Sem.run_bind,Sem.run_pure,Result.andThen_ok,hx],.cons ((hf.tm n).vr hn.1) hr⟩
 | .cell n t::l,rs,vs,hc,hv,hn=>by
  simp only [U6,AR,AB] at hc
  obtain ⟨kk,hkk,rs',hrs,he⟩:=hc
  cases he
  simp only [cO,AR,AB,rvA] at hv
  obtain ⟨v,hv1,vs',hvs,he⟩:=hv
  cases he
  simp only [Bi,AK] at hn
  obtain ⟨xs,hx,hr⟩:=UU hf l rs' vs' hrs hvs hn.2
  obtain ⟨x,hld,hvr⟩:=Z8 (P:=P) hkk hf (hf.tm n) hv1
  have hasaddr:(do loadVar t (← asAddr (a.tmps.getD n CY)):Sem Value).run P w= .ok x w:=by
   have hs:=hf.tm n
   generalize a.tmps.getD n CY=pn at hs hld
   cases hp:pn<;>simp only [hp,Instr.loadAt,Instr.sureAddr] at hld<;>try (simp at hld;done)
   rename_i ad
   cases ad with
   |none=>simp at hld
   |some ad=>simpa [asAddr,Instr.sureAddr] using hld
  exact ⟨x::xs,by simp only [Sem.run_bind] at hasaddr;simp only [List.mapM_cons,Sem.run_bind,hasaddr,hx,Result.andThen_ok,Sem.run_pure],.cons hvr hr⟩
theorem Xw {fn:Func} {rs:List RV} (hc:U6 P fn.results.toList=some rs) (hf:BQ base g lam Pr N F L σ a w0 w) {v:AV} (hv:Yk F L σ rs=some v):
 ∃x,(results fn a.tmps).run P w= .ok x w∧VR g v x:=by
 simp only [Yk,AB] at hv
 obtain ⟨vs,hvs,hv⟩:=hv
 split at hv
 case isFalse=>cases hv
 rename_i hn
 obtain ⟨xs,hx,hr⟩:=UU (P:=P) hf _ rs vs hc hvs hn
 have hrun:(results fn a.tmps).run P w= .ok (if h:xs.toArray.size=1 then xs.toArray[0] else .tuple xs.toArray) w:=by
  unfold results
  rw [Array.mapM_eq_mapM_toList]
  simp only [Sem.run_bind,Sem.run_map,Sem.run_pure]
  exact congrArg (fun r:Result (List Value)=>(r.andThen fun a w'=>Result.ok a.toArray w').andThen fun (a:Array Value) w'=>Result.ok (if h:a.size=1 then a[0] else Value.tuple a) w') hx
 have hlen:=hr.length
 cases vs with
 |nil=>
  cases hv
  cases hr
  exact ⟨_,hrun,by simpa using VR.tup (g:=g) (cs:=[]) (vs:=[]) rfl (by simp)⟩
 |cons v1 vs=>
  cases vs with
  |nil=>
   cases hv
   cases hr with|cons h1 h2=>cases h2;exact ⟨_,hrun,by simpa using h1⟩
  |cons v2 vs=>
   cases hv
   refine ⟨_,hrun,?_⟩
   have hne:¬xs.toArray.size=1:=by simp at hlen ⊢;omega
   rw [dif_neg hne]
   exact .tup hr.length hr.idx
theorem Run.fin {σ2:AN} (hg:Good cx) {v v':AV} (hv:Yk F L σ cx.rs=some v) (hw:∀g x,VR g v x→VR g v' x) (hσ:σ2.le σ) (hK:K v' σ2):Run cx K [] F L σ:=by
 intro items base g lam Pr a w0 w b cs hi hf hb hk
 cases hi
 obtain ⟨x,hx,hvr⟩:=Xw hg.2 hf hv
 refine ⟨x,w,_,.one step_end,hb,⟨rfl,hf.df,hk,cx.fn,by show cx.P.funcs[b.fn]?=_;rw [hb];exact hg.1,hx⟩,v',g,σ2,hw g x hvr,?_,Gh.le_refl g,KP.refl Pr w,hK⟩
 exact (hf.rel.less hσ).grow (A7 _) (fun _ _ _=>rfl) (Below.refl _ _) (fun b hp=>⟨(hf.rel.pr b (.inl hp)).1,.inl (.inl hp)⟩)
theorem Run.ret {σ2:AN} (hg:Good cx) {v v':AV} (hv:Yk F L σ cx.rs=some v) (hw:∀g x,VR g v x→VR g v' x) (hσ:σ2.le σ) (hK:K v' σ2):Run cx K (.code .ret::k) F L σ:=by
 intro items base g lam Pr a w0 w b cs hi hf hb hk
 obtain ⟨p,ys,rfl,hp,hys⟩:=hi.code
 cases hp
 obtain ⟨x,hx,hvr⟩:=Xw hg.2 hf hv
 refine ⟨x,w,_,.one step_ret,hb,⟨rfl,hf.df,hk,cx.fn,by show cx.P.funcs[b.fn]?=_;rw [hb];exact hg.1,hx⟩,v',g,σ2,hw g x hvr,?_,Gh.le_refl g,KP.refl Pr w,hK⟩
 exact (hf.rel.less hσ).grow (A7 _) (fun _ _ _=>rfl) (Below.refl _ _) (fun b hp=>⟨(hf.rel.pr b (.inl hp)).1,.inl (.inl hp)⟩)
def Ar (args:List AV):Fm:=fun s=>args.getD s .undef
theorem AW {args:List AV} {c:C} {code:Code} (hg:Good cx) (hb:cx.fn.body=some code) (hN:cx.fn.ntmps=cx.N) (hl:args.length≤cx.N) (hc:RC cx c code)
 (h:Run cx K [.code c] (Ar args) (fun _=>none) σ):AT cx.P cx.f args σ K:=by
 intro base g Pr w0 w vs hrel hvs cs
 let b:Frame:= { (default:Frame) with fn:=cx.f,kind:= .normal}
 have henter:Frame.enter cx.P cx.f vs.toArray .normal=b.at { tmps:=vs.toArray++EO (cx.fn.ntmps - vs.toArray.size) CY,defers:=[]} [.code code]:=by
  simp [Frame.enter,Frame.at,hg.1,hb,b]
 have hvl:=hvs.length
 have hf:BQ base g (fun _=>none) Pr cx.N (Ar args) (fun _=>none) σ { tmps:=vs.toArray++EO (cx.fn.ntmps - vs.toArray.size) CY,defers:=[]} w0 w:=by
  refine ⟨fun s=>?_,by simp;omega,rfl,fun k cs hk=>(by cases hk),fun k k' b hk=>(by cases hk),fun k b hk=>(by cases hk),?_⟩
  · simp only [Ar,So]
    cases hs:args[s]? with
    |none=>exact VR.undef
    |some av=>
     obtain ⟨v,hv,hr⟩:=hvs.at s av hs
     have hlt:=(A8.1 hv).1
     have:(vs.toArray++EO (cx.fn.ntmps - vs.toArray.size) CY).getD s CY=v:=by
      simp only [CX]
      rw [Array.getElem?_append_left (by simpa using hlt)]
      simp [hv]
     show SV g _ av ((vs.toArray++EO (cx.fn.ntmps - vs.toArray.size) CY).getD s CY)
     rw [this];exact SV.ER hr
  · exact hrel.grow (A7 _) (fun _ _ _=>rfl) (Below.refl _ _) (fun b hp=>by
     rcases hp with hp|⟨k,hk⟩
     · exact ⟨(hrel.pr b hp).1,.inl hp⟩
     · cases hk)
 obtain ⟨v,w',fr,hs,hfn,hlv,av,g',σ',h1,h2,h3,h4,h5⟩:=h [.code code] base g _ Pr _ w0 w b cs (.LX hc .nil) hf rfl rfl
 rw [← henter] at hs
 exact ⟨.returned v,w',fr,⟨v,av,g',σ',rfl,h1,h2,h3,h4,h5⟩,hs,hfn,hlv⟩
end Go.Ab
namespace Go.Ab
open Go.RowKit
variable {P:Program} {K:CO} {F:Fm} {L:Lm} {σ:AN} {r:List Q}
def E:Lm:=fun _=>none
def SH (k:Nat) (o:Option (List AV)) (L:Lm):Lm:=fun s=>if s=k then o else L s
theorem I9 (d:Nat) (v:AV) (F:Fm) (s:Nat):put d v F s=if s=d then v else F s:=rfl
theorem mO (d:Nat) (cs:List AV) (L:Lm) (s:Nat):Bd d cs L s=if s=d then some cs else L s:=rfl
theorem uQ (s:Nat):E s=none:=rfl
theorem uV (s:Nat):U s= .undef:=rfl
theorem kX (F:Fm):Vw [] F=U:=rfl
theorem hG (k:Nat) (ks:List Nat) (F:Fm):Vw (k::ks) F=put k (F k) (Vw ks F):=by
 funext s
 simp only [Vw,put,By]
 by_cases h:s=k
 · subst h;simp
 · simp [h]
theorem hD (L:Lm):TQ [] L=E:=rfl
theorem bR (k:Nat) (ks:List Nat) (L:Lm):TQ (k::ks) L=SH k (L k) (TQ ks L):=by
 funext s
 simp only [TQ,SH,By]
 by_cases h:s=k
 · subst h;simp
 · simp [h]
theorem cM (k:Nat) (cs:List AV) (L:Lm):SH k (some cs) L=Bd k cs L:=rfl
theorem pZ (k:Nat):SH k none E=E:=by funext s;simp [SH,E]
theorem cL (k j:Nat) (cs:List AV) (L:Lm):SH k none (Bd j cs L)=if j=k then SH k none L else Bd j cs (SH k none L):=by
 funext s
 by_cases h:j=k
 · subst h
   simp only [if_true,SH,Bd]
   by_cases h2:s=j<;>simp [h2]
 · simp only [h,if_false,SH,Bd]
   by_cases h2:s=k
   · have h3:s≠j:=by omega
     rw [if_pos h2,if_neg h3,if_pos h2]
   · rw [if_neg h2]
     by_cases h3:s=j
     · rw [if_pos h3,if_pos h3]
     · rw [if_neg h3,if_neg h3,if_neg h2]
theorem iQ (k:Nat) (cs ds:List AV) (L:Lm):Bd k cs (Bd k ds L)=Bd k cs L:=by
 funext s;simp only [Bd];split<;>rfl
theorem wS (F:Fm) (n:Nat):xv F (.t n)=F n:=rfl
theorem wR (F:Fm) (v:AV):xv F (.c v)=v:=rfl
theorem BM (a:AV):Ar [a]=put 0 a U:=by
 funext s;simp only [Ar,put,U];cases s<;>simp
theorem BH (a b:AV):Ar [a,b]=put 0 a (put 1 b U):=by
 funext s;simp only [Ar,put,U]
 match s with|0=>rfl|1=>rfl|n+2=>simp
theorem ID (a b c:AV):Ar [a,b,c]=put 0 a (put 1 b (put 2 c U)):=by
 funext s;simp only [Ar,put,U]
 match s with|0=>rfl|1=>rfl|2=>rfl|n+3=>simp
theorem Vb (a b c d:AV):Ar [a,b,c,d]=put 0 a (put 1 b (put 2 c (put 3 d U))):=by
 funext s;simp only [Ar,put,U]
 match s with|0=>rfl|1=>rfl|2=>rfl|3=>rfl|n+4=>simp
theorem pY (k:Nat):Co k U=U:=by funext s;simp [Co,U,AV.BO]
theorem iP (k d:Nat) (v:AV) (F:Fm):Co k (put d v F)=put d (if v.BO k then .undef else v) (Co k F):=by
 funext s
 simp only [Co,put]
 by_cases h:s=d<;>simp [h]
theorem s9 (k:Nat) (x:DV):(AV.d x).BO k=false:=rfl
theorem iB (k:Nat):AV.AU.BO k=false:=rfl
theorem lO (k t e s:Nat) (r:List (List DV)):(AV.own t e s r).BO k=false:=rfl
theorem hY (k:Nat) (r:List (List DV)):(AV.clip r).BO k=false:=rfl
theorem lN (k:Nat) (r:List AV):(AV.agg r).BO k=false:=rfl
theorem pH (k j o:Nat):(AV.lp j o).BO k=(j==k):=rfl
theorem pG (k j o:Nat):(AV.gp j o).BO k=false:=rfl
theorem pE (k o:Nat) (r:List DV):(AV.ep r o).BO k=false:=rfl
theorem iA (k:Nat):AV.E9.BO k=false:=rfl
theorem pI (k i n s e:Nat):(AV.ms i n s e).BO k=false:=rfl
theorem pJ (k:Nat) (i o n s e:Nat):(AV.mv i o n s e).BO k=false:=rfl
theorem pD (k:Nat) (t e:Nat) (s:List UInt8):(AV.bp t e s).BO k=false:=rfl
theorem hZ (k:Nat):AV.Na.BO k=false:=rfl
theorem pF (k:Nat) (f:FuncId) (x y:List AV):(AV.fn f x y).BO k=false:=rfl
theorem lP (k:Nat) (x:List AV):(AV.tup x).BO k=false:=rfl
theorem bW (k:Nat):AV.undef.BO k=false:=rfl
theorem nY (x:DV):AV.cells (AV.d x)=[(AV.d x)]:=rfl
theorem bA:AV.cells AV.AU=[AV.AU]:=rfl
theorem gC (t e s:Nat) (r:List (List DV)):AV.cells (AV.own t e s r)=[(AV.own t e s r)]:=rfl
theorem aX (r:List (List DV)):AV.cells (AV.clip r)=[(AV.clip r)]:=rfl
theorem gB (r:List AV):AV.cells (AV.agg r)=r:=rfl
theorem kA (j o:Nat):AV.cells (AV.lp j o)=[(AV.lp j o)]:=rfl
theorem j9 (j o:Nat):AV.cells (AV.gp j o)=[(AV.gp j o)]:=rfl
theorem j7 (r:List DV) (o:Nat):AV.cells (AV.ep r o)=[(AV.ep r o)]:=rfl
theorem aZ:AV.cells AV.E9=[AV.E9]:=rfl
theorem kB (i n s e:Nat):AV.cells (AV.ms i n s e)=[(AV.ms i n s e)]:=rfl
theorem kC (i o n s e:Nat):AV.cells (AV.mv i o n s e)=[AV.mv i o n s e]:=rfl
theorem j6 (t e:Nat) (s:List UInt8):AV.cells (AV.bp t e s)=[AV.bp t e s]:=rfl
theorem aY:AV.cells AV.Na=[AV.Na]:=rfl
theorem j8 (f:FuncId) (x y:List AV):AV.cells (AV.fn f x y)=[(AV.fn f x y)]:=rfl
theorem gD (x:List AV):AV.cells (AV.tup x)=[(AV.tup x)]:=rfl
theorem ZN:AV.cells AV.undef=[AV.undef]:=rfl
theorem kU (x:DV):AV.CD (AV.d x)=true:=rfl
theorem Z0:AV.CD AV.AU=true:=rfl
theorem bO (t e s:Nat) (r:List (List DV)):AV.CD (AV.own t e s r)=true:=rfl
theorem ZW (r:List (List DV)):AV.CD (AV.clip r)=true:=rfl
theorem bN (r:List AV):AV.CD (AV.agg r)=false:=rfl
theorem gW (j o:Nat):AV.CD (AV.lp j o)=false:=rfl
theorem gV (j o:Nat):AV.CD (AV.gp j o)=true:=rfl
theorem gT (r:List DV) (o:Nat):AV.CD (AV.ep r o)=true:=rfl
theorem ZZ:AV.CD AV.E9=true:=rfl
theorem gX (i n s e:Nat):AV.CD (AV.ms i n s e)=true:=rfl
theorem gY (i o n s e:Nat):AV.CD (AV.mv i o n s e)=true:=rfl
theorem gS (t e:Nat) (s:List UInt8):AV.CD (AV.bp t e s)=true:=rfl
theorem ZY:AV.CD AV.Na=true:=rfl
theorem gU (f:FuncId) (x y:List AV):AV.CD (AV.fn f x y)=true:=rfl
theorem bP (x:List AV):AV.CD (AV.tup x)=false:=rfl
theorem YY:AV.CD AV.undef=false:=rfl
theorem J0 (x:DV):AV.As (AV.d x)=true:=rfl
theorem iG:AV.As AV.AU=true:=rfl
theorem lT (t e s:Nat) (r:List (List DV)):AV.As (AV.own t e s r)=true:=rfl
theorem iD (r:List (List DV)):AV.As (AV.clip r)=true:=rfl
theorem FJ (r:List AV):AV.As (AV.agg r)=true:=rfl
theorem pO (j o:Nat):AV.As (AV.lp j o)=false:=rfl
theorem I6 (j o:Nat):AV.As (AV.gp j o)=true:=rfl
theorem pM (r:List DV) (o:Nat):AV.As (AV.ep r o)=true:=rfl
theorem iF:AV.As AV.E9=true:=rfl
theorem pP (i n s e:Nat):AV.As (AV.ms i n s e)=true:=rfl
theorem pQ (i o n s e:Nat):AV.As (AV.mv i o n s e)=true:=rfl
theorem pL (t e:Nat) (s:List UInt8):AV.As (AV.bp t e s)=true:=rfl
theorem iE:AV.As AV.Na=true:=rfl
theorem pN (f:FuncId) (x y:List AV):AV.As (AV.fn f x y)=true:=rfl
theorem lU (x:List AV):AV.As (AV.tup x)=true:=rfl
theorem b9:AV.As AV.undef=true:=rfl
theorem wJ (x:DV):AV.dv (AV.d x)=some x:=rfl
theorem oF:AV.dv AV.AU=some (.sl []):=rfl
theorem sH (t e s:Nat) (r:List (List DV)):AV.dv (AV.own t e s r)=some (.sl r):=rfl
theorem oC (r:List (List DV)):AV.dv (AV.clip r)=some (.sl r):=rfl
theorem sG (r:List AV):AV.dv (AV.agg r)=none:=rfl
theorem vA (j o:Nat):AV.dv (AV.lp j o)=none:=rfl
theorem u6 (j o:Nat):AV.dv (AV.gp j o)=none:=rfl
theorem uY (r:List DV) (o:Nat):AV.dv (AV.ep r o)=none:=rfl
theorem oE:AV.dv AV.E9=some .E9:=rfl
theorem vC (i o n s e:Nat):AV.dv (AV.mv i o n s e)=none:=rfl
theorem uX (t e:Nat) (s:List UInt8):AV.dv (AV.bp t e s)=none:=rfl
theorem oD:AV.dv AV.Na=none:=rfl
theorem vB (i n s e:Nat):AV.dv (AV.ms i n s e)=none:=rfl
theorem uZ (f:FuncId) (x y:List AV):AV.dv (AV.fn f x y)=none:=rfl
theorem sI (x:List AV):AV.dv (AV.tup x)=none:=rfl
theorem kK:AV.dv AV.undef=none:=rfl
theorem iT:AV.rows AV.AU=some []:=rfl
theorem mR (t e s:Nat) (r:List (List DV)):AV.rows (AV.own t e s r)=some r:=rfl
theorem iS (r:List (List DV)):AV.rows (AV.clip r)=some r:=rfl
theorem tJ (r:List (List DV)):AV.rows (AV.d (.sl r))=some r:=rfl
theorem hP:R8 AV.AU=some (.d (.int .i64 0)):=rfl
theorem lD (t e s:Nat) (r:List (List DV)):R8 (AV.own t e s r)=some (.d (.int .i64 r.length)):=rfl
theorem hO (r:List (List DV)):R8 (AV.clip r)=some (.d (.int .i64 r.length)):=rfl
theorem oW (i n s e:Nat):R8 (AV.ms i n s e)=some (.d (.int .i64 n)):=rfl
theorem oX (i o n s e:Nat):R8 (AV.mv i o n s e)=some (.d (.int .i64 n)):=rfl
theorem sU (r:List (List DV)):R8 (AV.d (.sl r))=some (.d (.int .i64 r.length)):=rfl
theorem uK:BI P K [] F L σ=K F L σ:=rfl
theorem uP (b:Bool) (q:Q) (t:QT):XT P K b (.one q t) F L σ=BI P (XT P K false t) [q] F L σ:=by cases b<;>rfl
theorem uO (b:Bool) (q:Q) (t s:QT):XT P K b (.alt q t s) F L σ=(BI P (XT P K false t) [q] F L σ∧XT P K true s F L σ):=by cases b<;>rfl
theorem rC:XT P K false .done F L σ=K F L σ:=rfl
theorem rD:XT P K true .done F L σ=True:=rfl
theorem nO (v:AV) (d:Nat):XPv (some v) (some d) K F L σ=K (put d v F) L σ:=rfl
theorem wE (d:Nat) (x:X):BI P K (⟨some d,.mv x,none⟩::r) F L σ=BI P K r (put d (xv F x) F) L σ:=rfl
theorem q7 (d:Option Nat) (x y z:X):BI P K (⟨d,.pick x y z,none⟩::r) F L σ=XPv (Zm (xv F x) (xv F y) (xv F z)) d (BI P K r) F L σ:=rfl
theorem uD (d:Option Nat) (x:X) (o:Nat):BI P K (⟨d,.fld x o,none⟩::r) F L σ=XPv (bK (xv F x) o) d (BI P K r) F L σ:=rfl
theorem wC (d:Option Nat) (x:X) (n:Option Nat):BI P K (⟨d,.ld x n,none⟩::r) F L σ=XPv (ldA L σ (xv F x) n) d (BI P K r) F L σ:=rfl
theorem wB (d:Option Nat) (x y:X) (n:Nat):BI P K (⟨d,.ix x y n,none⟩::r) F L σ=XPv (ixA (xv F x) (xv F y) n) d (BI P K r) F L σ:=rfl
theorem q9 (d:Option Nat) (x y:X):BI P K (⟨d,.W8 x y,none⟩::r) F L σ=XPv (W9 (xv F x) (xv F y)) d (BI P K r) F L σ:=rfl
theorem uF (d:Option Nat) (x:X):BI P K (⟨d,.len x,none⟩::r) F L σ=XPv (R8 (xv F x)) d (BI P K r) F L σ:=rfl
theorem rA (d:Option Nat) (x:X):BI P K (⟨d,.Pm x,none⟩::r) F L σ=XPv (Xx (xv F x)) d (BI P K r) F L σ:=rfl
theorem tY (d:Option Nat) (op:BinOp) (x y:X):BI P K (⟨d,.bin op x y,none⟩::r) F L σ=XPv (fV op (xv F x) (xv F y)) d (BI P K r) F L σ:=rfl
theorem qV (d:Option Nat) (op:BinOp) (x y:X):BI P K (⟨d,.j2 op x y,none⟩::r) F L σ=XPv (X9 op (xv F x) (xv F y)) d (BI P K r) F L σ:=rfl
theorem wG (d:Option Nat) (op:UnOp) (x:X):BI P K (⟨d,.un op x,none⟩::r) F L σ=XPv (unA op (xv F x)) d (BI P K r) F L σ:=rfl
theorem q6 (d:Option Nat) (k:IntKind) (x:X):BI P K (⟨d,.conv k x,none⟩::r) F L σ=XPv (Xd k (xv F x)) d (BI P K r) F L σ:=rfl
theorem tZ (d:Option Nat) (z:List AV) (ps:List (Nat×Nat×X)):BI P K (⟨d,.bld z ps,none⟩::r) F L σ=XPv ((Hi z F ps).map .agg) d (BI P K r) F L σ:=rfl
theorem uB (d:Option Nat) (s n:Nat) (z:List AV) (ps:List (Nat×Nat×X)):BI P K (⟨d,.bsl s n z ps,none⟩::r) F L σ=XPv (((Hi z F ps).bind dvs).map fun l=>.d (.sl (chunk s n l))) d (BI P K r) F L σ:=rfl
theorem uG (d:Option Nat) (f:FuncId) (x y:List X):BI P K (⟨d,.mkf f x y,none⟩::r) F L σ=XPv (if (xvs F x++xvs F y).all AV.As then some (.fn f (xvs F x) (xvs F y)) else none) d (BI P K r) F L σ:=rfl
theorem uC (d:Option Nat) (x:X) (i:Nat):BI P K (⟨d,.ext x i,none⟩::r) F L σ=XPv (gH (xv F x) i) d (BI P K r) F L σ:=rfl
theorem uJ (d:Option Nat) (x:X):BI P K (⟨d,.nck x,none⟩::r) F L σ=XPv (lR (xv F x)) d (BI P K r) F L σ:=rfl
theorem wD (d:Option Nat) (b:Bool) (x y:X):BI P K (⟨d,.mm b x y,none⟩::r) F L σ=XPv (mmA b (xv F x) (xv F y)) d (BI P K r) F L σ:=rfl
theorem uA (d:Nat) (x:X):BI P K (⟨some d,.box x false,none⟩::r) F L σ=(Ad (xv F x).cells=true∧BI P K r (put d (.lp d 0) (Co d F)) (Bd d (xv F x).cells L) σ):=rfl
theorem vW (d:Nat) (z:List AV):BI P K (⟨some d,.al z false,none⟩::r) F L σ=(Ad z=true∧BI P K r (put d (.lp d 0) (Co d F)) (Bd d z L) σ):=rfl
theorem qW (d:Nat) (x:X):BI P K (⟨some d,.box x true,none⟩::r) F L σ=(Ad (xv F x).cells=true∧∀i,σ.blk i=none→BI P K r (put d (.gp i 0) F) L (σ.AL i (xv F x).cells)):=rfl
theorem tW (d:Nat) (z:List AV):BI P K (⟨some d,.al z true,none⟩::r) F L σ=(Ad z=true∧∀i,σ.blk i=none→BI P K r (put d (.gp i 0) F) L (σ.AL i z)):=rfl
def rW (K:CO) (F:Fm):Option (Lm×AN)→Prop
 |some (L',σ')=>K F L' σ'
 |none=>False
theorem nP (F:Fm) (L':Lm) (σ':AN):rW K F (some (L',σ'))=K F L' σ':=rfl
theorem wF (x v:X) (n:Nat):BI P K (⟨none,.st x v n,none⟩::r) F L σ=(Ad (xv F v).cells=true∧(xv F v).cells.length=n∧rW (BI P K r) F (stA L σ (xv F v).cells (xv F x))):=by
 show XSt _ _ _ _ _ _ _ _=_
 unfold XSt rW
 simp only [true_and]
 cases stA L σ (xv F v).cells (xv F x)<;>rfl
theorem vZ (d:Option Nat) (o:O) (s:Nat) (want:Bool):BI P K (⟨d,o,some (s,want)⟩::r) F L σ=XG (gdV want (F s)) (BI P K (⟨d,o,none⟩::r) F L σ) (BI P K r (An d (.tup []) F) L σ):=rfl
theorem wA (d:Option Nat) (o:O) (s:Nat) (want:Bool) (h:gdV want (F s)=some true):BI P K (⟨d,o,some (s,want)⟩::r) F L σ=BI P K (⟨d,o,none⟩::r) F L σ:=by rw [vZ,h];rfl
theorem v7 (d:Option Nat) (o:O) (s:Nat) (want:Bool) (h:gdV want (F s)=some false):BI P K (⟨d,o,some (s,want)⟩::r) F L σ=BI P K r (An d (.tup []) F) L σ:=by rw [vZ,h];rfl
theorem vD (want b:Bool):gdV want (.d (.bool b))=some (b==want):=rfl
theorem vE (want:Bool):gdV want (.tup [])=some false:=rfl
theorem iR (d:Nat) (v:AV) (F:Fm):An (some d) v F=put d v F:=rfl
theorem qZ (d:Option Nat) (f:FuncId) (args:List X):BI P K (⟨d,.call f args,none⟩::r) F L σ=AG P f (xvs F args) d (BI P K r) F L σ:=rfl
theorem nN (d:Option Nat) (f:FuncId) (args:List X):BI P K (⟨d,.Ue f args,none⟩::r) F L σ=V6 P f (xvs F args) d (BI P K r) F L σ:=rfl
theorem tX (d:Option Nat) (e s b:Nat) (x y:X):BI P K (⟨d,.app e s b x y,none⟩::r) F L σ=NN e s b (xv F x) (xv F y) d (BI P K r) F L σ:=rfl
def rQ (P:Program) (x:AV) (args:List AV) (dst:Option Nat) (K:CO) (F:Fm) (L:Lm) (σ:AN):Prop:=
 ∃f first caps,x= .fn f first caps∧Am P f=true∧AG P f (first++args++caps) dst K F L σ
theorem nL (d:Option Nat) (x:X) (args:List X):BI P K (⟨d,.Dr x args,none⟩::r) F L σ=rQ P (xv F x) (xvs F args) d (BI P K r) F L σ:=rfl
theorem uI (d:Option Nat) (e s b:Nat) (z:List AV) (x y:X):BI P K (⟨d,.msl e s b z x y,none⟩::r) F L σ=jP e s b z (xv F x) (xv F y) d (BI P K r) F L σ:=rfl
theorem qU (d:Option Nat) (e s b:Nat) (x y:X):BI P K (⟨d,.Wy e s b x y,none⟩::r) F L σ=ZE e s b (xv F x) (xv F y) d (BI P K r) F L σ:=rfl
theorem uN (d:Option Nat) (x y:X):BI P K (⟨d,.trn x y,none⟩::r) F L σ=rX (xv F x) (xv F y) d (BI P K r) F L σ:=rfl
theorem qY (d:Option Nat) (e s n:Nat) (z:List AV) (ps:List (Nat×Nat×X)):BI P K (⟨d,.Le e s n z ps,none⟩::r) F L σ=Hb e s n (Hi z F ps) d (BI P K r) F L σ:=rfl
theorem uE (d:Option Nat) (x:X) (n:Option Nat):BI P K (⟨d,.ldl x n,none⟩::r) F L σ=XPv (Y5 L (xv F x) n) d (BI P K r) F L σ:=rfl
theorem vY (d:Option Nat) (x:X) (o:Nat) (n:Option Nat):BI P K (⟨d,.fd x o n,none⟩::r) F L σ=XPv (fdA (xv F x) o n) d (BI P K r) F L σ:=rfl
theorem uM (d:Option Nat) (x:X) (a b:Option X):BI P K (⟨d,.ssl x a b,none⟩::r) F L σ=XPv (VG (xv F x) (a.map (xv F)) (b.map (xv F))) d (BI P K r) F L σ:=rfl
theorem uL (d:Option Nat) (x:X) (a b c:Option X) (n:Nat):BI P K (⟨d,.sls x a b c n,none⟩::r) F L σ=XPv (iU (xv F x) (a.map (xv F)) (b.map (xv F)) (c.map (xv F)) n) d (BI P K r) F L σ:=rfl
theorem q8 (d:Option Nat) (ne:Bool) (x:X):BI P K (⟨d,.cI ne x,none⟩::r) F L σ=XPv (Xt ne (xv F x)) d (BI P K r) F L σ:=rfl
theorem rB (d:Option Nat) (ne:Bool) (n:Nat) (x y:X):BI P K (⟨d,.cX ne n x y,none⟩::r) F L σ=XPv (Xy ne n (xv F x) (xv F y)) d (BI P K r) F L σ:=rfl
theorem uH (d:Option Nat) (b:Bool) (x y z:X):BI P K (⟨d,.mm3 b x y z,none⟩::r) F L σ=XPv ((mmA b (xv F x) (xv F y)).bind fun v=>mmA b v (xv F z)) d (BI P K r) F L σ:=rfl
theorem qX (d:Option Nat) (x:X):BI P K (⟨d,.j3 x,none⟩::r) F L σ=XPv ((dvs (xv F x).cells).map fun ds=>.d (.ptr ds)) d (BI P K r) F L σ:=rfl
theorem vX (d:Option Nat) (k:EK) (xs:List X):BI P K (⟨d,.ex k xs,none⟩::r) F L σ=XEx k (xvs F xs) d (BI P K r) F L σ:=rfl
theorem qS (d:Option Nat) (args:List AV):XEx .cap args d K F L σ=XPv (exP .cap args) d K F L σ:=rfl
theorem qR (d:Option Nat) (args:List AV):XEx .b2s args d K F L σ=XPv (exP .b2s args) d K F L σ:=rfl
theorem qT (d:Option Nat) (args:List AV):XEx .usd args d K F L σ=XPv (exP .usd args) d K F L σ:=rfl
theorem qQ (d:Nat) (t:Nat) (z:List AV):XEx (.alt t z) [] (some d) K F L σ=(Ad z=true∧∀i,(σ.blk i=none∧σ.bt i=none)→K (put d (.gp i 0) F) L ((σ.AL i z).JR i (z.length,t))):=by
 simp only [XEx,EK.pure,AY,if_false,K0,true_and,ExR,An]
theorem XEx.ZJ {d:Nat} {t n:Nat} {v:AV} (hn:v.As=true) (h1:Ad v.cells=true) (h2:v.cells.length=n) (h:∀i,(σ.blk i=none∧σ.bt i=none)→K (put d (.gp i 0) F) L ((σ.AL i v.cells).JR i (n,t))):XEx (.ZJ t n) [v] (some d) K F L σ:=by
 refine ⟨by simp [hn],?_⟩
 exact ⟨⟨h1,h2⟩,h⟩
theorem XEx.Zu {d:Nat} {ne b:Bool} {v:AV} (hn:v.As=true) (hv:bY v=some b) (h:K (put d (.d (.bool (b != ne))) F) L σ):XEx (.Zu ne) [v] (some d) K F L σ:=by
 refine ⟨by simp [hn],?_⟩
 show (match bY v with|some b=>_|none=>_)
 rw [hv];exact h
theorem XEx.apps {d:Option Nat} {e:Nat} {s:AV} {x:List UInt8} {rows:List (List DV)} {σ1:AN} (hn:s.As=true) (ha:OG σ e 1 s=some (rows,σ1)) (hl:rows.length+x.length≤140737488355328)
 (h:∀t,σ.tok t=false→K (An d (.own t e 1 (rows++Az x)) F) L (σ1.DF t)):XEx (.apps e) [s,.d (.str x)] d K F L σ:=
 ⟨by rw [Bi,hn];rfl,rows,σ1,ha,hl,h⟩
theorem XEx.fQ {d:Option Nat} {e size bytes:Nat} {z:List AV} {k:IntKind} {n:Nat} (h0:0 < n) (hb:bytes≤10000) (hn:n≤1000000000)
 (h:∀j,σ.blk j=none→K (An d (.ms j n size e) F) L (σ.AL j (Ag n z).flatten)):XEx (.fQ e size bytes z) [.AU,.d (.int k n)] d K F L σ:=by
 refine ⟨rfl,by omega,?_,by omega,?_⟩
 · have h1:n * bytes≤1000000000 * 10000:=NL hn hb
   have h2:((n * bytes:Nat):Int)≤((1000000000 * 10000:Nat):Int):=Int.ofNat_le.2 h1
   rw [Int.natCast_mul] at h2
   exact Int.le_trans h2 (by decide)
 · simpa using h
theorem XEx.aA {d:Option Nat} {e t:Nat} {s:List UInt8} {n:Int} (hl:n=s.length) (h0:s≠[]) (ht:σ.tok t=true) (h:K (An d (.d (.str s)) F) L (σ.E7 t)):XEx (.aA e) [.bp t e s,.d (.int .i64 n)] d K F L σ:=
 ⟨rfl,⟨rfl,hl⟩,h0,ht,h⟩
theorem ZE.mk {d:Option Nat} {e size bytes n:Nat} {s x:AV} {cs:List AV} {srows:List (List DV)} {σ1:AN} (h1:Rl σ e size s=some (n,cs,σ1)) (h2:x.rows=some srows)
 (h3:∀r∈srows,r.length=size) (h4:srows≠[]) (h5:n+srows.length≤1000000000) (hb:bytes≤10000)
 (h:∀j,σ.blk j=none→K (An d (.ms j (n+srows.length) size e) F) L (σ1.AL j (cs++G4 srows))):ZE e size bytes s x d K F L σ:=
 ⟨n,cs,σ1,srows,h1,h2,h3,fun e=>absurd e h4,by simp only [maxLen];omega,by
   calc (n+srows.length) * bytes≤1000000000 * 10000:=NL h5 hb
    _≤140737488355328:=by decide,fun _=>h⟩
theorem Hb.mk {d:Option Nat} {e s n:Nat} {cs:List AV} (h:∀j,σ.blk j=none→K (An d (.ms j n s e) F) L (σ.AL j cs)):Hb e s n (some cs) d K F L σ:=⟨cs,rfl,.inl h⟩
theorem Hb.own {d:Option Nat} {e s n:Nat} {cs:List AV} {ds:List DV} (hd:dvs cs=some ds) (hn:0 < n) (h:∀t,σ.tok t=false→K (An d (.own t e s (chunk s n ds)) F) L (σ.DF t)):Hb e s n (some cs) d K F L σ:=⟨cs,rfl,.inr ⟨ds,hd,hn,h⟩⟩
theorem nX (n:Nat):Vc n none none=some (0,n):=by simp [Vc]
theorem jP.mk {d:Option Nat} {e s b:Nat} {z:List AV} (n:Nat) (hb:b * n≤281474976710656) (hn:n≤9223372036854775807) (h:∀i,σ.blk i=none→K (An d (.ms i n s e) F) L (σ.AL i (Ag n z).flatten)):
 jP e s b z (.d (.int .i64 n)) (.d (.int .i64 n)) d K F L σ:=
 ⟨.i64,.i64,n,rfl,rfl,by omega,by rw [← Int.natCast_mul];omega,by omega,fun i hi=>by simpa using h i hi⟩
theorem AG.mk {d:Option Nat} {f:FuncId} {args:List AV} {Q:AV→AN→Prop} (hn:args.all AV.As=true) (h:AT P f args σ Q) (hk:∀v σ',Q v σ'→K (An d v F) L σ'):
 AG P f args d K F L σ:=⟨hn,Q,h,hk⟩
theorem V6.mk {d:Option Nat} {f:FuncId} {args:List AV} {v:AV} (hn:args.all AV.As=true) (h:AT P f args σ (fun v' σ'=>v'=v∧σ'=σ)) (hk:K (An d v F) L σ) (hv:v.As=true:=by rfl):
 V6 P f args d K F L σ:=⟨hn,v,⟨hv,h⟩,hk⟩
theorem NN.mk {d:Option Nat} {e size bytes:Nat} {s x:AV} {rows srows:List (List DV)} {σ1:AN} (h1:OG σ e size s=some (rows,σ1)) (h2:x.rows=some srows)
 (h3:∀r∈srows,r.length=size) (h4:rows.length+srows.length≤maxLen) (h5:(rows.length+srows.length) * bytes≤140737488355328)
 (h:∀t,σ.tok t=false→K (An d (.own t e size (rows++srows)) F) L (σ1.DF t)):NN e size bytes s x d K F L σ:= .inl ⟨rows,σ1,srows,h1,h2,h3,h4,h5,h⟩
theorem NN.clip {d:Option Nat} {e size bytes:Nat} {x:AV} {rows srows:List (List DV)} (h2:x.rows=some srows)
 (h3:∀r∈rows,r.length=size) (h3':∀r∈srows,r.length=size) (h4:rows.length+srows.length≤1000000000) (hb:bytes≤10000)
 (h:K (An d (.d (.sl (rows++srows))) F) L σ):NN e size bytes (.clip rows) x d K F L σ:=
 .inr ⟨rows,srows,rfl,h2,h3,h3',by simp only [maxLen];omega,by
  calc (rows.length+srows.length) * bytes≤1000000000 * 10000:=NL h4 hb
   _≤140737488355328:=by decide,h⟩
theorem AT.args {f:FuncId} {args args':List AV} {Q:AV→AN→Prop} (h:AT P f args' σ Q) (hw:∀g vs,VRs g args vs→VRs g args' vs):AT P f args σ Q:=
 fun base g Pr w0 w vs hr hv=>h base g Pr w0 w vs hr (hw g vs hv)
def Cut (live:List Nat) (F0:Fm) (L0:Lm) (σ0:AN):CO:=fun F L σ=>Vw live F=F0∧TQ live L=L0∧σ=σ0
theorem cW {P:Program} {m m1 m':Machine} (h:step P m= .next m1) (hs:Steps P m m') (hne:m≠m'):Steps P m1 m':=by
 obtain ⟨n,hn⟩:=hs
 cases n with
 |zero=>simp only [runN] at hn;cases hn;exact absurd rfl hne
 |succ n=>simp only [runN,h] at hn;exact ⟨n,hn⟩
theorem Run.Cm {cx:Cx} {KK:AV→AN→Prop} {k:List CI} {c:C} (h:Run cx KK (.again c::k) F L σ):Run cx KK (.code (.loop c)::k) F L σ:=by
 intro items base g lam Pr a w0 w b cs hi hf hb hk
 obtain ⟨p,ys,rfl,⟨p1,rfl,h1⟩,hys⟩:=hi.code
 obtain ⟨v,w',fr,hs,hfn,hl,rest⟩:=h (.inLoop p1::ys) base g lam Pr a w0 w b cs (.cons ⟨p1,rfl,h1⟩ hys) hf hb hk
 refine ⟨v,w',fr,.head step_loop (cW step_inLoop hs fun e=>?_),hfn,hl,rest⟩
 have h2:(lone (b.at a (.inLoop p1::ys)) cs w).gs=(lone fr cs w').gs:=by rw [e]
 simp only [lone,Array.mk.injEq,List.cons.injEq,Goroutine.mk.injEq] at h2
 have h3:(b.at a (.inLoop p1::ys)).mode=fr.mode:=by rw [h2.1.1]
 rw [hl.1] at h3
 cases h3
def X3 (v:AV) (A B:Prop):Prop:=
 match v with
 | .d (.bool b)=>(b=true→A)∧(b=false→B)
 |_=>False
theorem qN (b:Bool) (A B:Prop):X3 (.d (.bool b)) A B=((b=true→A)∧(b=false→B)):=rfl
theorem qP (A B:Prop):X3 (.d (.bool true)) A B=A:=by simp [X3]
theorem qO (A B:Prop):X3 (.d (.bool false)) A B=B:=by simp [X3]
theorem Run.AM {cx:Cx} {KK:AV→AN→Prop} {k:List CI} {x:X} {t e:C} (h:X3 (xv F x) (Run cx KK (.code t::k) F L σ) (Run cx KK (.code e::k) F L σ)):Run cx KK (.code (.cond x t e)::k) F L σ:=by
 cases hx:xv F x<;>rw [hx] at h<;>try exact h.elim
 rename_i dv
 cases dv<;>try exact h.elim
 exact Run.cond hx h.1 h.2
mutual
def AV.plain:AV→AV
 | .AU=>.d (.sl [])
 | .E9=>.d .E9
 | .own _ _ _ rows=>.d (.sl rows)
 | .clip rows=>.d (.sl rows)
 | .agg cs=>.agg (AV.Eb cs)
 | .tup vs=>.tup (AV.Eb vs)
 |v=>v
def AV.Eb:List AV→List AV
 |[]=>[]
 |v::l=>AV.plain v::AV.Eb l
end
theorem Yg (x:DV):AV.plain (AV.d x)=(AV.d x):=by simp only [AV.plain]
theorem Sc:AV.plain AV.AU= .d (.sl []):=by simp only [AV.plain]
theorem iJ (t e s:Nat) (r:List (List DV)):AV.plain (AV.own t e s r)= .d (.sl r):=by simp only [AV.plain]
theorem cF (r:List (List DV)):AV.plain (AV.clip r)= .d (.sl r):=by simp only [AV.plain]
theorem UL (r:List AV):AV.plain (AV.agg r)= .agg (AV.Eb r):=by simp only [AV.plain]
theorem mD (j o:Nat):AV.plain (AV.lp j o)=(AV.lp j o):=by simp only [AV.plain]
theorem mC (j o:Nat):AV.plain (AV.gp j o)=(AV.gp j o):=by simp only [AV.plain]
theorem mB (r:List DV) (o:Nat):AV.plain (AV.ep r o)=(AV.ep r o):=by simp only [AV.plain]
theorem cH:AV.plain AV.E9= .d .E9:=by simp only [AV.plain]
theorem mE (i n s e:Nat):AV.plain (AV.ms i n s e)=(AV.ms i n s e):=by simp only [AV.plain]
theorem mF (i o n s e:Nat):AV.plain (AV.mv i o n s e)=(AV.mv i o n s e):=by simp only [AV.plain]
theorem mA (t e:Nat) (s:List UInt8):AV.plain (AV.bp t e s)=(AV.bp t e s):=by simp only [AV.plain]
theorem cG:AV.plain AV.Na=AV.Na:=by simp only [AV.plain]
theorem plain_fn (f:FuncId) (x y:List AV):AV.plain (AV.fn f x y)=(AV.fn f x y):=by simp only [AV.plain]
theorem iK (x:List AV):AV.plain (AV.tup x)= .tup (AV.Eb x):=by simp only [AV.plain]
theorem Zo:AV.plain AV.undef=AV.undef:=by simp only [AV.plain]
theorem MF:∀(l:List AV) (i:Nat),(AV.Eb l)[i]?=(l[i]?).map AV.plain
 |[],i=>by simp [AV.Eb]
 |v::l,0=>by simp [AV.Eb]
 |v::l,i+1=>by simp [AV.Eb,MF l i]
theorem Sd:∀l:List AV,(AV.Eb l).length=l.length
 |[]=>rfl
 |v::l=>by simp [AV.Eb,Sd l]
theorem WJ {v:AV} (h:v.CD=true):v.plain.CD=true:=by cases v<;>first|rfl|(cases h;done)
theorem VR.plain {g:Gh} {x:AV} {v:Value} (h:VR g x v):VR g x.plain v:=by
 induction h with
 |d h=>simpa [AV.plain] using VR.d h
 |AU=>exact .d (.nil (CB _) (fun _=>rfl))
 |own h _ _=>exact .d h
 |clip h=>exact .d h
 |@agg cs vs hl hc _ ih=>
  refine .agg (by rw [Sd];exact hl) (fun c hcm=>?_) (fun i c v hci hvi=>?_)
  · obtain ⟨i,hi,rfl⟩:=CW hcm
    have:=MF cs i
    rw [Ao hi] at this
    cases hcs:cs[i]? with
    |none=>rw [hcs] at this;cases this
    |some c'=>rw [hcs] at this;simp only [CQ,AP] at this;rw [this];exact WJ (hc c' (Ai hcs))
  · rw [MF] at hci
    cases hcs:cs[i]? with
    |none=>rw [hcs] at hci;cases hci
    |some c'=>rw [hcs] at hci;simp only [CQ,AP] at hci;rw [← hci];exact ih i c' v hcs hvi
 |gp h=>simpa [AV.plain] using VR.gp h
 |ep hi hr=>simpa [AV.plain] using VR.ep hi hr
 |E9=>exact .d .E9
 |Na=>simpa [AV.plain] using VR.Na
 |ms h hr hn hm=>simpa [AV.plain] using VR.ms h hr hn hm
 |mv h hr hn hm ho=>simpa [AV.plain] using VR.mv h hr hn hm ho
 |bp h k=>simpa [AV.plain] using VR.bp h k
 |fn hl hl' h h' _ _=>simpa [AV.plain] using VR.fn hl hl' h h'
 |@tup cs vs hl _ ih=>
  refine .tup (by rw [Sd];exact hl) (fun i c v hci hvi=>?_)
  rw [MF] at hci
  cases hcs:cs[i]? with
  |none=>rw [hcs] at hci;cases hci
  |some c'=>rw [hcs] at hci;simp only [CQ,AP] at hci;rw [← hci];exact ih i c' v hcs hvi
 |undef=>simpa [AV.plain] using VR.undef
theorem VRs.plain {g:Gh} {xs:List AV} {vs:List Value} (h:VRs g xs vs):VRs g (AV.Eb xs) vs:=by
 induction h with
 |nil=>exact .nil
 |cons h _ ih=>exact .cons h.plain ih
theorem AT.plain {f:FuncId} {args:List AV} {Q:AV→AN→Prop} (h:AT P f (AV.Eb args) σ Q):AT P f args σ Q:=
 fun base g Pr w0 w vs hr hv=>h base g Pr w0 w vs hr hv.plain
def rV (o:Option AV) (K:AV→AN→Prop) (σ:AN):Prop:=
 match o with
 |some v=>K v σ
 |none=>False
theorem jI (v:AV) (K:AV→AN→Prop) (σ:AN):rV (some v) K σ=K v σ:=rfl
theorem Run.Af {cx:Cx} {KK:AV→AN→Prop} {k:List CI} {σ2:AN} (hg:Good cx) (hσ:σ2.le σ) (h:rV ((Yk F L σ cx.rs).map AV.plain) KK σ2):Run cx KK (.code .ret::k) F L σ:=by
 cases hr:Yk F L σ cx.rs with
 |none=>rw [hr] at h;exact h.elim
 |some v=>rw [hr] at h;exact Run.ret hg hr (fun _ _ h=>h.plain) hσ h
theorem Run.Ia {cx:Cx} {KK:AV→AN→Prop} {k:List CI} {σ2:AN} (hg:Good cx) (hσ:σ2.le σ) (h:rV (Yk F L σ cx.rs) KK σ2):Run cx KK (.code .ret::k) F L σ:=by
 cases hr:Yk F L σ cx.rs with
 |none=>rw [hr] at h;exact h.elim
 |some v=>rw [hr] at h;exact Run.ret hg hr (fun _ _ h=>h) hσ h
theorem AO (σ:AN) (i j:Nat) (cs:List AV):(σ.AL i cs).blk j=if j=i then some cs else σ.blk j:=rfl
theorem A0 (σ:AN) (i:Nat) (cs ds:List AV):(σ.AL i cs).AL i ds=σ.AL i ds:=by
 unfold AN.AL
 congr 1
 funext j
 by_cases h:j=i<;>simp [h]
theorem Ql {σ:AN} {i:Nat} {cs:List AV} (h:σ.blk i=some cs):σ.AL i cs=σ:=by
 unfold AN.AL
 cases σ
 congr 1
 funext j
 split
 · rename_i e;subst e;exact h.symm
 · rfl
theorem F2 (σ:AN) (t i:Nat):(σ.DF t).blk i=σ.blk i:=rfl
theorem bI (σ:AN) (t i:Nat):(σ.E7 t).blk i=σ.blk i:=rfl
theorem AN.le_trans {a b c:AN} (h:a.le b) (k:b.le c):a.le c:=⟨fun i cs x=>k.blk i cs (h.blk i cs x),fun t x=>k.tok t (h.tok t x),h.gt.trans k.gt,fun i x hx=>k.bt i x (h.bt i x hx)⟩
theorem Ec {σ:AN} {i:Nat} {cs:List AV} (h:σ.blk i=none):σ.le (σ.AL i cs):=
 ⟨fun j ds hj=>by
   have:j≠i:=fun e=>by rw [e,h] at hj;cases hj
   rw [AO,if_neg this];exact hj,fun _ h=>h,rfl,fun _ _ h=>h⟩
structure E2 (σ:AN) (e s:Nat) (rows:List (List DV)) (v:AV) (σ':AN):Prop where
 app:∃σ1,OG σ' e s v=some (rows,σ1)∧σ.le σ1
 le:σ.le σ'
 plain:v.plain= .d (.sl rows)
 len:R8 v=some (.d (.int .i64 rows.length))
 cell:v.CD=true
 As:v.As=true
 BO:∀k,v.BO k=false
 dv:v.dv=some (.sl rows)
 cells:v.cells=[v]
theorem E2.nil (σ:AN) (e s:Nat):E2 σ e s [] .AU σ:=
 ⟨⟨σ,rfl,AN.le_refl σ⟩,AN.le_refl σ,rfl,rfl,rfl,rfl,fun _=>rfl,rfl,rfl⟩
theorem E2.own {σ σ1 σ':AN} {e s t:Nat} {rows:List (List DV)} (hle:σ.le σ1) (hle':σ.le σ') (ht:σ'.tok t=false):E2 σ e s rows (.own t e s rows) (σ1.DF t):=by
 have hnt:σ.tok t=false:=by
  cases h:σ.tok t with
  |false=>rfl
  |true=>rw [hle'.tok t h] at ht;cases ht
 refine ⟨⟨(σ1.DF t).E7 t,by simp [OG,AN.DF],⟨fun i cs h=>hle.blk i cs h,fun t' h=>?_,hle.gt,hle.bt⟩⟩,⟨fun i cs h=>hle.blk i cs h,fun t' h=>?_,hle.gt,hle.bt⟩,rfl,rfl,rfl,rfl,fun _=>rfl,rfl,rfl⟩
 · have hne:t'≠t:=fun e=>by rw [e,hnt] at h;cases h
   simp [AN.E7,AN.DF,hne,hle.tok t' h]
 · have hne:t'≠t:=fun e=>by rw [e,hnt] at h;cases h
   simp [AN.DF,hne,hle.tok t' h]
theorem NN.own {σ0:AN} {d:Option Nat} {e size bytes:Nat} {s x:AV} {rows srows:List (List DV)} (ho:E2 σ0 e size rows s σ) (h2:x.rows=some srows)
 (h3:∀r∈srows,r.length=size) (h4:rows.length+srows.length≤1000000000) (hb:bytes≤10000)
 (h:∀v σ',E2 σ0 e size (rows++srows) v σ'→(∀i,σ'.blk i=σ.blk i)→K (An d v F) L σ'):NN e size bytes s x d K F L σ:=by
 obtain ⟨σ1,ha,hl⟩:=ho.app
 refine NN.mk ha h2 h3 (by simp only [maxLen];omega) ?_ (fun t ht=>h _ _ (E2.own hl ho.le ht) (fun i=>?_))
 · calc (rows.length+srows.length) * bytes≤1000000000 * 10000:=NL h4 hb
    _≤140737488355328:=by decide
 · rw [F2]
   unfold OG at ha
   split at ha
   · cases ha;rfl
   · split at ha
     · cases ha;rfl
     · cases ha
   · cases ha
variable {cx:Cx} {KK:AV→AN→Prop} {k:List CI}
theorem Run.facts {p:Prop} (hp:∀base g lam Pr a w0 w,BQ base g lam Pr cx.N F L σ a w0 w→p) (h:p→Run cx KK k F L σ):Run cx KK k F L σ:=
 fun items base g lam Pr a w0 w b cs hi hf hb hk=>h (hp base g lam Pr a w0 w hf) items base g lam Pr a w0 w b cs hi hf hb hk
def AV.FI:AV→Prop
 | .d (.sl rows)=>rows.length≤9223372036854775807
 | .d (.str s)=>s.length≤9223372036854775807
 | .d (.int k n)=>k.min≤n∧n≤k.max
 | .own _ _ _ rows=>rows.length≤9223372036854775807
 | .clip rows=>rows.length≤9223372036854775807
 |_=>True
theorem VR.FI {g:Gh} {x:AV} {v:Value} (h:VR g x v):x.FI:=by
 cases h with
 |d h=>
  cases h with
  |int h=>exact h
  |bool=>trivial
  |str h=>exact h
  |nil=>simp [AV.FI]
  |sl hc hm _ _ _=>exact At hc hm
  |ptr=>trivial
  |E9=>trivial
 |own h _ _=>obtain ⟨_,_,_,h2⟩:=h.J6;exact h2
 |clip h=>obtain ⟨_,_,_,h2⟩:=h.J6;exact h2
 |_=>trivial
theorem SV.FI {g:Gh} {lam:Nat→Option Nat} {x:AV} {v:Value} (h:SV g lam x v):x.FI:=by
 cases x<;>first|exact VR.FI h|trivial
theorem Run.slot (s:Nat) (h:(F s).FI→Run cx KK k F L σ):Run cx KK k F L σ:=
 Run.facts (fun _ _ _ _ _ _ _ hf=>(hf.tm s).FI) h
theorem Run.cell (j o:Nat) {cs:List AV} {c:AV} (hL:L j=some cs) (hc:cs[o]?=some c) (h:c.FI→Run cx KK k F L σ):Run cx KK k F L σ:=
 Run.facts (fun _ _ _ _ _ _ _ hf=>by
  obtain ⟨_,b,vs,ty,_,_,_,hr⟩:=hf.loc j cs hL
  obtain ⟨v,_,hv⟩:=hr.at o c hc
  exact hv.FI) h
end Go.Ab
