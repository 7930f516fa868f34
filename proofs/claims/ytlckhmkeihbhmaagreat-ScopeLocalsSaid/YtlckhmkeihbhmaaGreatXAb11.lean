/- Compact code, its runs at the abstract level, and contracts out of runs. Equations that run compact code at the abstract level. Conditions: none. -/
import Derived.Scope
import Derived.Test.YtlckhmkeihbhmaaGreatXAb10d
set_option linter.unusedSimpArgs false
set_option linter.unusedVariables false
set_option maxRecDepth 4000
set_option maxHeartbeats 8000000
open List renaming range→BI,all_cons→BT,getD_eq_getElem?_getD→Bq,getElem?_eq_some_iff→AR,mem_cons→BW,all_nil→Cw,replicate→AO,getElem_of_mem→DM,getElem?_eq_getElem→BH,mem_of_getElem?→AS
open Option.some renaming injEq→AJ
open Prod.mk renaming injEq→B1
open Option renaming getD_some→Nt,map_eq_some_iff→AE,bind_eq_some_iff→AB,bind_eq_bind→AL,map_some→Bl
open Go renaming undef→Cg
open Bool renaming and_eq_true→AN,false_eq_true→AZ
open Nat renaming le_refl→A0,mul_le_mul→MF,zero_le→C1,le_trans→BY
open Array renaming replicate→ER,getD_eq_getD_getElem?→Ce
namespace Go.Ab
open Go.RowKit
inductive C where
 |skip
 |reg (ops:List Q) (live:List Nat)
 |Sm (t:QT) (live:List Nat)
 |seq (x y:C)
 |cond (x:X) (t e:C)
 |block (id:Nat) (c:C)
 |loop (c:C)
 |exit (id:Nat)
 |ret
 |scope (c:C)
 |bad
inductive CI where
 |code (c:C)
 |blk (id:Nat)
 |scp
 |again (c:C)
def bP (P:Program) (N:Nat) (esc:List Nat) (pf:List FuncId) (live:List Nat) (pt:PT) (ops:Array Oper):Option C:=
 match pt with
 | .done=>(eL P N esc pf (BI ops.size) ops).map fun q=>.reg q live
 |pt=>(Uz P N esc pf pt ops).map fun t=>match lin t with
  |some q=>.reg q live
  |none=>.Sm t live
def GP (P:Program) (N:Nat) (esc:List Nat) (pf:List FuncId):Code→List (List Nat×PT)→Option (C×List (List Nat×PT))
 | .skip,ct=>some (.skip,ct)
 | .region _ ops false,(live,_)::ct=>some (((Kg P N esc ops (BI ops.size)).map fun q=>C.reg q live).getD .bad,ct)
 | .region _ ops true,(live,pt)::ct=>some ((bP P N esc pf live pt ops).getD .bad,ct)
 | .seq x y,ct=>(GP P N esc pf x ct).bind fun r=>(GP P N esc pf y r.2).map fun r'=>(.seq r.1 r'.1,r'.2)
 | .cond c t e,ct=>(xo c).bind fun c'=>(GP P N esc pf t ct).bind fun r=>(GP P N esc pf e r.2).map fun r'=>(.cond c' r.1 r'.1,r'.2)
 | .block id c,ct=>(GP P N esc pf c ct).map fun r=>(.block id r.1,r.2)
 | .loop c,ct=>(GP P N esc pf c ct).map fun r=>(.loop r.1,r.2)
 | .exit id,ct=>some (.exit id,ct)
 | .ret,ct=>some (.ret,ct)
 | .scope c,ct=>(GP P N esc pf c ct).map fun r=>(.scope r.1,r.2)
 | .label _,ct=>some (.skip,ct)
 |_,_=>none
inductive RV where
 |t (n:Nat)
 |c (n:Nat) (k:Option Nat)
def TS (P:Program):List ResultVar→Option (List RV)
 |[]=>some []
 | .tmp n::l=>do some (.t n::(← TS P l))
 | .cell n t::l=>do
  let k ← ldN P t
  some (.c n k::(← TS P l))
def rvA (F:Fm) (L:Lm) (σ:AF):RV→Option AV
 | .t n=>some (F n)
 | .c n k=>ldA L σ (F n) k
def dN (F:Fm) (L:Lm) (σ:AF):List RV→Option (List AV)
 |[]=>some []
 |r::l=>do some ((← rvA F L σ r)::(← dN F L σ l))
def Ye (F:Fm) (L:Lm) (σ:AF) (rs:List RV):Option AV:=
 (dN F L σ rs).bind fun vs=>if vs.all AV.BF then (match vs with|[v]=>some v|vs=>some (.tup vs)) else none
def M4 (ks:List Nat) (F:Fm):Fm:=fun s=>if s∈ks then F s else .undef
def I6 (ks:List Nat) (L:Lm):Lm:=fun s=>if s∈ks then L s else none
variable {P:Program} {base N:Nat} {g g':Gh} {Pr:Nat→Prop} {σ σ':AF} {w0 w w':World} {lam:Nat→Option Nat} {F F':Fm} {L L':Lm} {a:Act}
theorem Bd.qY (h:Bd base g lam Pr N F L σ a w0 w) (hF:∀s,F' s=F s∨F' s= .undef) (hL:∀k cs,L' k=some cs→L k=some cs) (hσ:σ'.le σ):Bd base g lam Pr N F' L' σ' a w0 w:=by
 refine ⟨fun s=>?_,h.sz,h.df,fun k cs hk=>h.loc k cs (hL k cs hk),h.inj,h.npr,h.rel.less hσ⟩
 rcases hF s with e|e
 · rw [e];exact h.tm s
 · rw [e];exact VR.undef
theorem Bd.kept (h:Bd base g lam Pr N F L σ a w0 w) (ks:List Nat):Bd base g lam Pr N (M4 ks F) (I6 ks L) σ a w0 w:=
 h.qY (fun s=>by simp only [M4];split<;>simp) (fun k cs hk=>by simp only [I6] at hk;split at hk<;>simp_all) (AF.le_refl σ)
structure Cx where
 P:Program
 f:FuncId
 fn:Func
 N:Nat
 esc:List Nat
 pf:List FuncId
 rs:List RV
def RC (cx:Cx):C→Code→Prop
 | .skip,k=>k= .skip∨∃l,k= .label l
 | .scope c,k=>∃p,k= .scope p∧RC cx c p
 | .reg ops _,k=>∃id arr,(k= .region id arr false∧Kg cx.P cx.N cx.esc arr (BI arr.size)=some ops)∨(k= .region id arr true∧∃order,eL cx.P cx.N cx.esc cx.pf order arr=some ops)∨(k= .region id arr true∧∃pt t,Uz cx.P cx.N cx.esc cx.pf pt arr=some t∧lin t=some ops)
 | .Sm t _,k=>∃id arr pt,k= .region id arr true∧Uz cx.P cx.N cx.esc cx.pf pt arr=some t
 | .seq x y,k=>∃p q,k= .seq p q∧RC cx x p∧RC cx y q
 | .cond x t e,k=>∃c p q,k= .cond c p q∧xo c=some x∧RC cx t p∧RC cx e q
 | .block id c,k=>∃p,k= .block id p∧RC cx c p
 | .loop c,k=>∃p,k= .loop p∧RC cx c p
 | .exit id,k=>k= .exit id
 | .ret,k=>k= .ret
 | .bad,_=>True
theorem AY (cx:Cx):∀(k:Code) (ct:List (List Nat×PT)) (c:C) (ct':List (List Nat×PT)),GP cx.P cx.N cx.esc cx.pf k ct=some (c,ct')→RC cx c k
 | .skip,ct,c,ct',h=>by simp only [GP,AJ,B1] at h;rw [← h.1];exact .inl rfl
 | .region id ops dr,ct,c,ct',h=>by
  cases ct with
  |nil=>cases dr<;>simp only [GP] at h<;>cases h
  |cons lo ct=>
   obtain ⟨live,order⟩:=lo
   cases dr
   · simp only [GP,AJ,B1] at h
     obtain ⟨rfl,_⟩:=h
     cases hq:Kg cx.P cx.N cx.esc ops (BI ops.size) with
     |none=>exact trivial
     |some qs=>exact ⟨id,ops,.inl ⟨rfl,hq⟩⟩
   · simp only [GP,AJ,B1] at h
     obtain ⟨rfl,_⟩:=h
     cases hq:bP cx.P cx.N cx.esc cx.pf live order ops with
     |none=>exact trivial
     |some c'=>
     simp only [Nt]
     unfold bP at hq
     split at hq
     · simp only [AE] at hq
       obtain ⟨qs,hq',rfl⟩:=hq
       exact ⟨id,ops,.inr (.inl ⟨rfl,_,hq'⟩)⟩
     · simp only [AE] at hq
       obtain ⟨t,ht,rfl⟩:=hq
       cases hl:lin t with
       |some q=>exact ⟨id,ops,.inr (.inr ⟨rfl,_,t,ht,hl⟩)⟩
       |none=>exact ⟨id,ops,_,rfl,ht⟩
 | .seq x y,ct,c,ct',h=>by
  simp only [GP,AB,AE,B1] at h
  obtain ⟨⟨x',c1⟩,hx,⟨y',c2⟩,hy,rfl,_⟩:=h
  exact ⟨x,y,rfl,AY cx x _ _ _ hx,AY cx y _ _ _ hy⟩
 | .cond c t e,ct,c2,ct',h=>by
  simp only [GP,AB,AE,B1] at h
  obtain ⟨x,hx,⟨t',c1⟩,ht,⟨e',c3⟩,he,rfl,_⟩:=h
  exact ⟨c,t,e,rfl,hx,AY cx t _ _ _ ht,AY cx e _ _ _ he⟩
 | .block id p,ct,c,ct',h=>by
  simp only [GP,AE,B1] at h
  obtain ⟨⟨c',c1⟩,hc,rfl,_⟩:=h
  exact ⟨p,rfl,AY cx p _ _ _ hc⟩
 | .loop p,ct,c,ct',h=>by
  simp only [GP,AE,B1] at h
  obtain ⟨⟨c',c1⟩,hc,rfl,_⟩:=h
  exact ⟨p,rfl,AY cx p _ _ _ hc⟩
 | .exit id,ct,c,ct',h=>by simp only [GP,AJ,B1] at h;rw [← h.1];rfl
 | .ret,ct,c,ct',h=>by simp only [GP,AJ,B1] at h;rw [← h.1];rfl
 | .rangeFunc ..,ct,c,ct',h=>by simp only [GP] at h;cases h
 | .scope p,ct,c,ct',h=>by
  simp only [GP,AE,B1] at h
  obtain ⟨⟨c',c1⟩,hc,rfl,_⟩:=h
  exact ⟨p,rfl,AY cx p _ _ _ hc⟩
 | .label l,ct,c,ct',h=>by simp only [GP,AJ,B1] at h;rw [← h.1];exact .inr ⟨l,rfl⟩
 | .goto _,ct,c,ct',h=>by simp only [GP] at h;cases h
 | .refuse _,ct,c,ct',h=>by simp only [GP] at h;cases h
def RI (cx:Cx):CI→Item→Prop
 | .code c,y=>∃k,y= .code k∧RC cx c k
 | .blk id,y=>y= .inBlock id
 | .scp,y=>∃k,y= .inScope k
 | .again c,y=>∃k,y= .inLoop k∧RC cx c k
inductive RIs (cx:Cx):List CI→List Item→Prop
 |nil:RIs cx [] []
 |cons {x:CI} {y:Item} {xs:List CI} {ys:List Item} (h:RI cx x y) (hs:RIs cx xs ys):RIs cx (x::xs) (y::ys)
def Good (cx:Cx):Prop:=cx.P.funcs[cx.f]?=some cx.fn∧TS cx.P cx.fn.results.toList=some cx.rs
def Run (cx:Cx) (K:AV→AF→Prop) (todo:List CI) (F:Fm) (L:Lm) (σ:AF):Prop:=
 ∀(items:List Item) (base:Nat) (g:Gh) (lam:Nat→Option Nat) (Pr:Nat→Prop) (a:Act) (w0 w:World) (b:Frame) (cs:List Frame),
  RIs cx todo items→Bd base g lam Pr cx.N F L σ a w0 w→b.fn=cx.f→b.kind= .normal→
  ∃v w' fr,Steps cx.P (lone (b.at a items) cs w) (lone fr cs w')∧fr.fn=cx.f∧fr.leaving cx.P w' (.returned v)∧
   ∃av g' σ',VR g' av v∧Rel base g' Pr σ' w0 w'∧g.le g'∧KP Pr w w'∧K av σ'
variable {cx:Cx} {K:AV→AF→Prop} {k:List CI}
theorem Run.qY (hF:∀s,F' s=F s∨F' s= .undef) (hL:∀k cs,L' k=some cs→L k=some cs) (hσ:σ'.le σ) (h:Run cx K k F' L' σ'):Run cx K k F L σ:=
 fun items base g lam Pr a w0 w b cs hi hf hb hk=>h items base g lam Pr a w0 w b cs hi (hf.qY hF hL hσ) hb hk
theorem Run.KU {k':List CI}
 (hs:∀items,RIs cx k items→∃items',RIs cx k' items'∧∀(b:Frame) (a:Act) (cs:List Frame) (w:World),step cx.P (lone (b.at a items) cs w)= .next (lone (b.at a items') cs w))
 (h:Run cx K k' F L σ):Run cx K k F L σ:=by
 intro items base g lam Pr a w0 w b cs hi hf hb hk
 obtain ⟨items',hi',hst⟩:=hs items hi
 obtain ⟨v,w',fr,hss,rest⟩:=h items' base g lam Pr a w0 w b cs hi' hf hb hk
 exact ⟨v,w',fr,.head (hst b a cs w) hss,rest⟩
theorem RIs.code {c:C} {items:List Item} (h:RIs cx (.code c::k) items):∃p ys,items= .code p::ys∧RC cx c p∧RIs cx k ys:=by
 cases h with
 |cons hy hys=>obtain ⟨p,rfl,hp⟩:=hy;exact ⟨p,_,rfl,hp,hys⟩
theorem RIs.KT {c:C} {p:Code} {ys:List Item} (hc:RC cx c p) (h:RIs cx k ys):RIs cx (.code c::k) (.code p::ys):= .cons ⟨p,rfl,hc⟩ h
theorem Run.skip (h:Run cx K k F L σ):Run cx K (.code .skip::k) F L σ:=
 h.KU fun items hi=>by
  obtain ⟨p,ys,rfl,hp,hys⟩:=hi.code
  rcases hp with rfl|⟨l,rfl⟩
  · exact ⟨ys,hys,fun b a cs w=>step_skip⟩
  · exact ⟨ys,hys,fun b a cs w=>step_label⟩
theorem Run.scope {c:C} (h:Run cx K (.code c::.scp::k) F L σ):Run cx K (.code (.scope c)::k) F L σ:=
 h.KU fun items hi=>by
  obtain ⟨p,ys,rfl,⟨p1,rfl,h1⟩,hys⟩:=hi.code
  exact ⟨_,.KT h1 (.cons ⟨p1,rfl⟩ hys),fun b a cs w=>step_scope⟩
theorem Run.scp (h:Run cx K k F L σ):Run cx K (.scp::k) F L σ:=
 h.KU fun items hi=>by
  cases hi with
  |cons hy hys=>obtain ⟨p,rfl⟩:=hy;exact ⟨_,hys,fun b a cs w=>step_inScope⟩
theorem Run.seq {x y:C} (h:Run cx K (.code x::.code y::k) F L σ):Run cx K (.code (.seq x y)::k) F L σ:=
 h.KU fun items hi=>by
  obtain ⟨p,ys,rfl,⟨p1,p2,rfl,h1,h2⟩,hys⟩:=hi.code
  exact ⟨_,.KT h1 (.KT h2 hys),fun b a cs w=>step_seq⟩
theorem Run.block {id:Nat} {c:C} (h:Run cx K (.code c::.blk id::k) F L σ):Run cx K (.code (.block id c)::k) F L σ:=
 h.KU fun items hi=>by
  obtain ⟨p,ys,rfl,⟨p1,rfl,h1⟩,hys⟩:=hi.code
  exact ⟨_,.KT h1 (.cons rfl hys),fun b a cs w=>step_block⟩
theorem Run.blk {id:Nat} (h:Run cx K k F L σ):Run cx K (.blk id::k) F L σ:=
 h.KU fun items hi=>by
  cases hi with
  |cons hy hys=>cases hy;exact ⟨_,hys,fun b a cs w=>step_inBlock⟩
theorem Run.loop {c:C} (h:Run cx K (.code c::.again c::k) F L σ):Run cx K (.code (.loop c)::k) F L σ:=
 h.KU fun items hi=>by
  obtain ⟨p,ys,rfl,⟨p1,rfl,h1⟩,hys⟩:=hi.code
  exact ⟨_,.KT h1 (.cons ⟨p1,rfl,h1⟩ hys),fun b a cs w=>step_loop⟩
theorem Run.again {c:C} (h:Run cx K (.code c::.again c::k) F L σ):Run cx K (.again c::k) F L σ:=
 h.KU fun items hi=>by
  cases hi with
  |cons hy hys=>obtain ⟨p1,rfl,h1⟩:=hy;exact ⟨_,.KT h1 (.cons ⟨p1,rfl,h1⟩ hys),fun b a cs w=>step_inLoop⟩
def Rc (id:Nat):List CI→Option (List CI)
 | .blk id'::k=>if id'=id then some k else Rc id k
 |_::k=>Rc id k
 |[]=>none
theorem JO {id:Nat}:∀(k:List CI) (items:List Item) (k':List CI),RIs cx k items→Rc id k=some k'→∃items',exitTo id items=some items'∧RIs cx k' items'
 |[],_,_,_,h=>by cases h
 |x::k,items,k',hi,h=>by
  cases hi with
  |@cons _ y _ ys hy hys=>
   cases x with
   |code c=>
    obtain ⟨p,rfl,_⟩:=hy
    obtain ⟨i',h1,h2⟩:=JO k ys k' hys (by simpa [Rc] using h)
    exact ⟨i',by simpa [exitTo] using h1,h2⟩
   |again c=>
    obtain ⟨p,rfl,_⟩:=hy
    obtain ⟨i',h1,h2⟩:=JO k ys k' hys (by simpa [Rc] using h)
    exact ⟨i',by simpa [exitTo] using h1,h2⟩
   |scp=>
    obtain ⟨p,rfl⟩:=hy
    obtain ⟨i',h1,h2⟩:=JO k ys k' hys (by simpa [Rc] using h)
    exact ⟨i',by simpa [exitTo] using h1,h2⟩
   |blk id'=>
    cases hy
    simp only [Rc] at h
    split at h
    · rename_i e
      cases h
      exact ⟨ys,by simp [exitTo,e],hys⟩
    · rename_i e
      obtain ⟨i',h1,h2⟩:=JO k ys k' hys h
      exact ⟨i',by simpa [exitTo,e] using h1,h2⟩
theorem Run.exit {id:Nat} {k':List CI} (he:Rc id k=some k') (h:Run cx K k' F L σ):Run cx K (.code (.exit id)::k) F L σ:=
 h.KU fun items hi=>by
  obtain ⟨p,ys,rfl,hp,hys⟩:=hi.code
  cases hp
  obtain ⟨i',h1,h2⟩:=JO k ys k' hys he
  exact ⟨i',h2,fun b a cs w=>step_exit h1⟩
theorem Run.cond {x:X} {t e:C} {b:Bool} (hx:xv F x= .d (.bool b)) (ht:b=true→Run cx K (.code t::k) F L σ) (he:b=false→Run cx K (.code e::k) F L σ):
 Run cx K (.code (.cond x t e)::k) F L σ:=by
 intro items base g lam Pr a w0 w fb cs hi hf hb hk
 obtain ⟨p,ys,rfl,⟨c,p1,p2,rfl,hc,h1,h2⟩,hys⟩:=hi.code
 have hv:=A9 hc hf
 rw [hx] at hv
 have hev:a.eval c= .bool b:=by generalize a.eval c=vc at hv;cases hv with|d hh=>cases hh;rfl
 cases b with
 |true=>
  obtain ⟨v,w',fr,hs,rest⟩:=ht rfl _ base g lam Pr a w0 w fb cs (.KT h1 hys) hf hb hk
  exact ⟨v,w',fr,.head (step_cond hev) hs,rest⟩
 |false=>
  obtain ⟨v,w',fr,hs,rest⟩:=he rfl _ base g lam Pr a w0 w fb cs (.KT h2 hys) hf hb hk
  exact ⟨v,w',fr,.head (step_cond hev) hs,rest⟩
def fF (cx:Cx) (K:AV→AF→Prop) (k:List CI) (live:List Nat):C0:=fun F L σ=>Run cx K k (M4 live F) (I6 live L) σ
theorem Run.reg {ops:List Q} {live:List Nat} (hm:cx.P.follows .mixedOrders=true) (h:BU cx.P (fF cx K k live) ops F L σ):Run cx K (.code (.reg ops live)::k) F L σ:=by
 intro items base g lam Pr a w0 w b cs hi hf hb hk
 obtain ⟨p,ys,rfl,⟨id,arr,hp⟩,hys⟩:=hi.code
 have hw:p.wp cx.P (fun e a' w'=>e= .normal∧E7 base Pr cx.N w0 g w (fF cx K k live) a' w') a w:=by
  rcases hp with ⟨rfl,hc⟩|⟨rfl,order,hc⟩|⟨rfl,pt,t,hc,hl⟩
  · exact wp_region (WW cx.P arr cx.N cx.esc (fF cx K k live) _ _ base g lam Pr F L σ a w0 w hc h hf (fun _ _ h=>⟨rfl,h⟩))
  · exact bX hm hc h hf
  · exact TU hm hc (k8 t ops F L σ hl h) hf
 obtain ⟨e,a',w',⟨he,g',lam',F',L',σ',hle,hkp,hf',hK⟩,harr⟩:=hw b ys cs
 subst he
 obtain ⟨v,w2,fr,hs,hfn,hl,av,g2,σ2,hvr,hrel,hle2,hkp2,hk2⟩:=hK ys base g' lam' Pr a' w0 w' b cs hys (hf'.kept live) hb hk
 exact ⟨v,w2,fr,Steps.trans harr hs,hfn,hl,av,g2,σ2,hvr,hrel,Gh.le_trans hle hle2,hkp.trans hkp2,hk2⟩
theorem Run.Sm {t:QT} {live:List Nat} (hm:cx.P.follows .mixedOrders=true) (h:XT cx.P (fF cx K k live) false t F L σ):Run cx K (.code (.Sm t live)::k) F L σ:=by
 intro items base g lam Pr a w0 w b cs hi hf hb hk
 obtain ⟨p,ys,rfl,⟨id,arr,pt,rfl,hc⟩,hys⟩:=hi.code
 have hw:(Code.region id arr true).wp cx.P (fun e a' w'=>e= .normal∧E7 base Pr cx.N w0 g w (fF cx K k live) a' w') a w:=TU hm hc h hf
 obtain ⟨e,a',w',⟨he,g',lam',F',L',σ',hle,hkp,hf',hK⟩,harr⟩:=hw b ys cs
 subst he
 obtain ⟨v,w2,fr,hs,hfn,hl,av,g2,σ2,hvr,hrel,hle2,hkp2,hk2⟩:=hK ys base g' lam' Pr a' w0 w' b cs hys (hf'.kept live) hb hk
 exact ⟨v,w2,fr,Steps.trans harr hs,hfn,hl,av,g2,σ2,hvr,hrel,Gh.le_trans hle hle2,hkp.trans hkp2,hk2⟩
theorem Sx (hf:Bd base g lam Pr N F L σ a w0 w):∀(l:List ResultVar) (rs:List RV) (vs:List AV),TS P l=some rs→dN F L σ rs=some vs→vs.all AV.BF=true→
 ∃xs:List Value,(l.mapM fun| .tmp t=>pure (a.tmps.getD t Cg)| .cell ad t=>do loadVar t (← asAddr (a.tmps.getD ad Cg)):Sem (List Value)).run P w= .ok xs w∧VRs g vs xs
 |[],rs,vs,hc,hv,_=>by
  simp only [TS,AJ] at hc;subst hc
  simp only [dN,AJ] at hv;subst hv
  exact ⟨[],by simp,.nil⟩
 | .tmp n::l,rs,vs,hc,hv,hn=>by
  simp only [TS,AL,AB] at hc
  obtain ⟨rs',hrs,he⟩:=hc
  cases he
  simp only [dN,AL,AB,rvA] at hv
  obtain ⟨v,hv1,vs',hvs,he⟩:=hv
  cases he;cases hv1
  simp only [BT,AN] at hn
  obtain ⟨xs,hx,hr⟩:=Sx hf l rs' vs' hrs hvs hn.2
  exact ⟨a.tmps.getD n Cg::xs,by simp only [List.mapM_cons,Sem.run_bind,Sem.run_pure,Result.andThen_ok,hx],.cons ((hf.tm n).vr hn.1) hr⟩
 | .cell n t::l,rs,vs,hc,hv,hn=>by
  simp only [TS,AL,AB] at hc
  obtain ⟨kk,hkk,rs',hrs,he⟩:=hc
  cases he
  simp only [dN,AL,AB,rvA] at hv
  obtain ⟨v,hv1,vs',hvs,he⟩:=hv
  cases he
  simp only [BT,AN] at hn
  obtain ⟨xs,hx,hr⟩:=Sx hf l rs' vs' hrs hvs hn.2
  obtain ⟨x,hld,hvr⟩:=Zc (P:=P) hkk hf (hf.tm n) hv1
  have hasaddr:(do loadVar t (← asAddr (a.tmps.getD n Cg)):Sem Value).run P w= .ok x w:=by
   have hs:=hf.tm n
   generalize a.tmps.getD n Cg=pn at hs hld
   cases hp:pn<;>simp only [hp,Instr.loadAt,Instr.sureAddr] at hld<;>try (simp at hld;done)
   rename_i ad
   cases ad with
   |none=>simp at hld
   |some ad=>simpa [asAddr,Instr.sureAddr] using hld
  exact ⟨x::xs,by simp only [Sem.run_bind] at hasaddr;simp only [List.mapM_cons,Sem.run_bind,hasaddr,hx,Result.andThen_ok,Sem.run_pure],.cons hvr hr⟩
theorem Xh {fn:Func} {rs:List RV} (hc:TS P fn.results.toList=some rs) (hf:Bd base g lam Pr N F L σ a w0 w) {v:AV} (hv:Ye F L σ rs=some v):
 ∃x,(results fn a.tmps).run P w= .ok x w∧VR g v x:=by
 simp only [Ye,AB] at hv
 obtain ⟨vs,hvs,hv⟩:=hv
 split at hv
 case isFalse=>cases hv
 rename_i hn
 obtain ⟨xs,hx,hr⟩:=Sx (P:=P) hf _ rs vs hc hvs hn
 have hrun:(results fn a.tmps).run P w= .ok (if h:xs.toArray.size=1 then xs.toArray[0] else .tuple xs.toArray) w:=by
  unfold results
  rw [Array.mapM_eq_mapM_toList]
  simp only [Sem.run_bind,Sem.run_map,Sem.run_pure]
  exact congrArg (fun r:Result (List Value)=>(r.andThen fun a w'=>Result.ok a.toArray w').andThen fun (a:Array Value) w'=>Result.ok (if h:a.size=1 then a[0] else Value.tuple a) w') hx
 have hlen:=hr.length
 cases vs with
 |nil=>
  cases hv
  cases hr
  exact ⟨_,hrun,by simpa using VR.tup (g:=g) (cs:=[]) (vs:=[]) rfl (by simp)⟩
 |cons v1 vs=>
  cases vs with
  |nil=>
   cases hv
   cases hr with|cons h1 h2=>cases h2;exact ⟨_,hrun,by simpa using h1⟩
  |cons v2 vs=>
   cases hv
   refine ⟨_,hrun,?_⟩
   have hne:¬xs.toArray.size=1:=by simp at hlen ⊢;omega
   rw [dif_neg hne]
   exact .tup hr.length hr.idx
theorem Run.fin {σ2:AF} (hg:Good cx) {v v':AV} (hv:Ye F L σ cx.rs=some v) (hw:∀g x,VR g v x→VR g v' x) (hσ:σ2.le σ) (hK:K v' σ2):Run cx K [] F L σ:=by
 intro items base g lam Pr a w0 w b cs hi hf hb hk
 cases hi
 obtain ⟨x,hx,hvr⟩:=Xh hg.2 hf hv
 refine ⟨x,w,_,.one step_end,hb,⟨rfl,hf.df,hk,cx.fn,by show cx.P.funcs[b.fn]?=_;rw [hb];exact hg.1,hx⟩,v',g,σ2,hw g x hvr,?_,Gh.le_refl g,KP.refl Pr w,hK⟩
 exact (hf.rel.less hσ).grow (A0 _) (fun _ _ _=>rfl) (Below.refl _ _) (fun b hp=>⟨(hf.rel.pr b (.inl hp)).1,.inl (.inl hp)⟩)
theorem Run.ret {σ2:AF} (hg:Good cx) {v v':AV} (hv:Ye F L σ cx.rs=some v) (hw:∀g x,VR g v x→VR g v' x) (hσ:σ2.le σ) (hK:K v' σ2):Run cx K (.code .ret::k) F L σ:=by
 intro items base g lam Pr a w0 w b cs hi hf hb hk
 obtain ⟨p,ys,rfl,hp,hys⟩:=hi.code
 cases hp
 obtain ⟨x,hx,hvr⟩:=Xh hg.2 hf hv
 refine ⟨x,w,_,.one step_ret,hb,⟨rfl,hf.df,hk,cx.fn,by show cx.P.funcs[b.fn]?=_;rw [hb];exact hg.1,hx⟩,v',g,σ2,hw g x hvr,?_,Gh.le_refl g,KP.refl Pr w,hK⟩
 exact (hf.rel.less hσ).grow (A0 _) (fun _ _ _=>rfl) (Below.refl _ _) (fun b hp=>⟨(hf.rel.pr b (.inl hp)).1,.inl (.inl hp)⟩)
def BK (args:List AV):Fm:=fun s=>args.getD s .undef
theorem AX {args:List AV} {c:C} {code:Code} (hg:Good cx) (hb:cx.fn.body=some code) (hN:cx.fn.ntmps=cx.N) (hl:args.length≤cx.N) (hc:RC cx c code)
 (h:Run cx K [.code c] (BK args) (fun _=>none) σ):AK cx.P cx.f args σ K:=by
 intro base g Pr w0 w vs hrel hvs cs
 let b:Frame:= { (default:Frame) with fn:=cx.f,kind:= .normal}
 have henter:Frame.enter cx.P cx.f vs.toArray .normal=b.at { tmps:=vs.toArray++ER (cx.fn.ntmps - vs.toArray.size) Cg,defers:=[]} [.code code]:=by
  simp [Frame.enter,Frame.at,hg.1,hb,b]
 have hvl:=hvs.length
 have hf:Bd base g (fun _=>none) Pr cx.N (BK args) (fun _=>none) σ { tmps:=vs.toArray++ER (cx.fn.ntmps - vs.toArray.size) Cg,defers:=[]} w0 w:=by
  refine ⟨fun s=>?_,by simp;omega,rfl,fun k cs hk=>(by cases hk),fun k k' b hk=>(by cases hk),fun k b hk=>(by cases hk),?_⟩
  · simp only [BK,Bq]
    cases hs:args[s]? with
    |none=>exact VR.undef
    |some av=>
     obtain ⟨v,hv,hr⟩:=hvs.at s av hs
     have hlt:=(AR.1 hv).1
     have:(vs.toArray++ER (cx.fn.ntmps - vs.toArray.size) Cg).getD s Cg=v:=by
      simp only [Ce]
      rw [Array.getElem?_append_left (by simpa using hlt)]
      simp [hv]
     show SV g _ av ((vs.toArray++ER (cx.fn.ntmps - vs.toArray.size) Cg).getD s Cg)
     rw [this];exact SV.EW hr
  · exact hrel.grow (A0 _) (fun _ _ _=>rfl) (Below.refl _ _) (fun b hp=>by
     rcases hp with hp|⟨k,hk⟩
     · exact ⟨(hrel.pr b hp).1,.inl hp⟩
     · cases hk)
 obtain ⟨v,w',fr,hs,hfn,hlv,av,g',σ',h1,h2,h3,h4,h5⟩:=h [.code code] base g _ Pr _ w0 w b cs (.KT hc .nil) hf rfl rfl
 rw [← henter] at hs
 exact ⟨.returned v,w',fr,⟨v,av,g',σ',rfl,h1,h2,h3,h4,h5⟩,hs,hfn,hlv⟩
end Go.Ab
namespace Go.Ab
open Go.RowKit
variable {P:Program} {K:C0} {F:Fm} {L:Lm} {σ:AF} {r:List Q}
def E:Lm:=fun _=>none
def QY (k:Nat) (o:Option (List AV)) (L:Lm):Lm:=fun s=>if s=k then o else L s
theorem CZ (d:Nat) (v:AV) (F:Fm) (s:Nat):put d v F s=if s=d then v else F s:=rfl
theorem lY (d:Nat) (cs:List AV) (L:Lm) (s:Nat):BA d cs L s=if s=d then some cs else L s:=rfl
theorem rN (s:Nat):E s=none:=rfl
theorem rT (s:Nat):U s= .undef:=rfl
theorem kX (F:Fm):M4 [] F=U:=rfl
theorem hM (k:Nat) (ks:List Nat) (F:Fm):M4 (k::ks) F=put k (F k) (M4 ks F):=by
 funext s
 simp only [M4,put,BW]
 by_cases h:s=k
 · subst h;simp
 · simp [h]
theorem hJ (L:Lm):I6 [] L=E:=rfl
theorem cO (k:Nat) (ks:List Nat) (L:Lm):I6 (k::ks) L=QY k (L k) (I6 ks L):=by
 funext s
 simp only [I6,QY,BW]
 by_cases h:s=k
 · subst h;simp
 · simp [h]
theorem dA (k:Nat) (cs:List AV) (L:Lm):QY k (some cs) L=BA k cs L:=rfl
theorem oI (k:Nat):QY k none E=E:=by funext s;simp [QY,E]
theorem c9 (k j:Nat) (cs:List AV) (L:Lm):QY k none (BA j cs L)=if j=k then QY k none L else BA j cs (QY k none L):=by
 funext s
 by_cases h:j=k
 · subst h
   simp only [if_true,QY,BA]
   by_cases h2:s=j<;>simp [h2]
 · simp only [h,if_false,QY,BA]
   by_cases h2:s=k
   · have h3:s≠j:=by omega
     rw [if_pos h2,if_neg h3,if_pos h2]
   · rw [if_neg h2]
     by_cases h3:s=j
     · rw [if_pos h3,if_pos h3]
     · rw [if_neg h3,if_neg h3,if_neg h2]
theorem iS (k:Nat) (cs ds:List AV) (L:Lm):BA k cs (BA k ds L)=BA k cs L:=by
 funext s;simp only [BA];split<;>rfl
theorem sW (F:Fm) (n:Nat):xv F (.t n)=F n:=rfl
theorem sV (F:Fm) (v:AV):xv F (.c v)=v:=rfl
theorem Bf (a:AV):BK [a]=put 0 a U:=by
 funext s;simp only [BK,put,U];cases s<;>simp
theorem BR (a b:AV):BK [a,b]=put 0 a (put 1 b U):=by
 funext s;simp only [BK,put,U]
 match s with|0=>rfl|1=>rfl|n+2=>simp
theorem K7 (a b c:AV):BK [a,b,c]=put 0 a (put 1 b (put 2 c U)):=by
 funext s;simp only [BK,put,U]
 match s with|0=>rfl|1=>rfl|2=>rfl|n+3=>simp
theorem jV (a b c d:AV):BK [a,b,c,d]=put 0 a (put 1 b (put 2 c (put 3 d U))):=by
 funext s;simp only [BK,put,U]
 match s with|0=>rfl|1=>rfl|2=>rfl|3=>rfl|n+4=>simp
theorem jW (a b c d e:AV):BK [a,b,c,d,e]=put 0 a (put 1 b (put 2 c (put 3 d (put 4 e U)))):=by
 funext s;simp only [BK,put,U]
 match s with|0=>rfl|1=>rfl|2=>rfl|3=>rfl|4=>rfl|n+5=>simp
theorem oH (k:Nat):DB k U=U:=by funext s;simp [DB,U,AV.BG]
theorem iR (k d:Nat) (v:AV) (F:Fm):DB k (put d v F)=put d (if v.BG k then .undef else v) (DB k F):=by
 funext s
 simp only [DB,put]
 by_cases h:s=d<;>simp [h]
theorem qM (k:Nat) (x:DV):(AV.d x).BG k=false:=rfl
theorem iC (k:Nat):AV.AU.BG k=false:=rfl
theorem lD (k t e s:Nat) (r:List (List DV)):(AV.own t e s r).BG k=false:=rfl
theorem hZ (k:Nat) (r:List (List DV)):(AV.clip r).BG k=false:=rfl
theorem lC (k:Nat) (r:List AV):(AV.agg r).BG k=false:=rfl
theorem nY (k j o:Nat):(AV.lp j o).BG k=(j==k):=rfl
theorem nX (k j o:Nat):(AV.gp j o).BG k=false:=rfl
theorem nV (k o:Nat) (r:List DV):(AV.ep r o).BG k=false:=rfl
theorem iB (k:Nat):AV.FD.BG k=false:=rfl
theorem nZ (k i n s e:Nat):(AV.ms i n s e).BG k=false:=rfl
theorem n8 (k:Nat) (i o n s e:Nat):(AV.mv i o n s e).BG k=false:=rfl
theorem nU (k:Nat) (t e:Nat) (s:List UInt8):(AV.bp t e s).BG k=false:=rfl
theorem iA (k:Nat):AV.IS.BG k=false:=rfl
theorem nW (k:Nat) (f:FuncId) (x y:List AV):(AV.fn f x y).BG k=false:=rfl
theorem lE (k:Nat) (x:List AV):(AV.tup x).BG k=false:=rfl
theorem cT (k:Nat):AV.undef.BG k=false:=rfl
theorem m8 (x:DV):AV.cells (AV.d x)=[(AV.d x)]:=rfl
theorem bN:AV.cells AV.AU=[AV.AU]:=rfl
theorem fY (t e s:Nat) (r:List (List DV)):AV.cells (AV.own t e s r)=[(AV.own t e s r)]:=rfl
theorem bK (r:List (List DV)):AV.cells (AV.clip r)=[(AV.clip r)]:=rfl
theorem fX (r:List AV):AV.cells (AV.agg r)=r:=rfl
theorem j8 (j o:Nat):AV.cells (AV.lp j o)=[(AV.lp j o)]:=rfl
theorem j2 (j o:Nat):AV.cells (AV.gp j o)=[(AV.gp j o)]:=rfl
theorem jZ (r:List DV) (o:Nat):AV.cells (AV.ep r o)=[(AV.ep r o)]:=rfl
theorem bM:AV.cells AV.FD=[AV.FD]:=rfl
theorem j9 (i n s e:Nat):AV.cells (AV.ms i n s e)=[(AV.ms i n s e)]:=rfl
theorem kA (i o n s e:Nat):AV.cells (AV.mv i o n s e)=[AV.mv i o n s e]:=rfl
theorem jY (t e:Nat) (s:List UInt8):AV.cells (AV.bp t e s)=[AV.bp t e s]:=rfl
theorem bL:AV.cells AV.IS=[AV.IS]:=rfl
theorem j0 (f:FuncId) (x y:List AV):AV.cells (AV.fn f x y)=[(AV.fn f x y)]:=rfl
theorem fZ (x:List AV):AV.cells (AV.tup x)=[(AV.tup x)]:=rfl
theorem ZL:AV.cells AV.undef=[AV.undef]:=rfl
theorem kU (x:DV):AV.BV (AV.d x)=true:=rfl
theorem Zb:AV.BV AV.AU=true:=rfl
theorem cL (t e s:Nat) (r:List (List DV)):AV.BV (AV.own t e s r)=true:=rfl
theorem Z7 (r:List (List DV)):AV.BV (AV.clip r)=true:=rfl
theorem cK (r:List AV):AV.BV (AV.agg r)=false:=rfl
theorem g7 (j o:Nat):AV.BV (AV.lp j o)=false:=rfl
theorem g6 (j o:Nat):AV.BV (AV.gp j o)=true:=rfl
theorem gY (r:List DV) (o:Nat):AV.BV (AV.ep r o)=true:=rfl
theorem Za:AV.BV AV.FD=true:=rfl
theorem g8 (i n s e:Nat):AV.BV (AV.ms i n s e)=true:=rfl
theorem g9 (i o n s e:Nat):AV.BV (AV.mv i o n s e)=true:=rfl
theorem gX (t e:Nat) (s:List UInt8):AV.BV (AV.bp t e s)=true:=rfl
theorem Z9:AV.BV AV.IS=true:=rfl
theorem gZ (f:FuncId) (x y:List AV):AV.BV (AV.fn f x y)=true:=rfl
theorem cM (x:List AV):AV.BV (AV.tup x)=false:=rfl
theorem YS:AV.BV AV.undef=false:=rfl
theorem Fu (x:DV):AV.BF (AV.d x)=true:=rfl
theorem iJ:AV.BF AV.AU=true:=rfl
theorem lN (t e s:Nat) (r:List (List DV)):AV.BF (AV.own t e s r)=true:=rfl
theorem iG (r:List (List DV)):AV.BF (AV.clip r)=true:=rfl
theorem DX (r:List AV):AV.BF (AV.agg r)=true:=rfl
theorem oE (j o:Nat):AV.BF (AV.lp j o)=false:=rfl
theorem oD (j o:Nat):AV.BF (AV.gp j o)=true:=rfl
theorem oC (r:List DV) (o:Nat):AV.BF (AV.ep r o)=true:=rfl
theorem iI:AV.BF AV.FD=true:=rfl
theorem eZ (i n s e:Nat):AV.BF (AV.ms i n s e)=true:=rfl
theorem oF (i o n s e:Nat):AV.BF (AV.mv i o n s e)=true:=rfl
theorem oB (t e:Nat) (s:List UInt8):AV.BF (AV.bp t e s)=true:=rfl
theorem iH:AV.BF AV.IS=true:=rfl
theorem eY (f:FuncId) (x y:List AV):AV.BF (AV.fn f x y)=true:=rfl
theorem lO (x:List AV):AV.BF (AV.tup x)=true:=rfl
theorem cY:AV.BF AV.undef=true:=rfl
theorem sR (x:DV):AV.dv (AV.d x)=some x:=rfl
theorem nI:AV.dv AV.AU=some (.sl []):=rfl
theorem p8 (t e s:Nat) (r:List (List DV)):AV.dv (AV.own t e s r)=some (.sl r):=rfl
theorem nF (r:List (List DV)):AV.dv (AV.clip r)=some (.sl r):=rfl
theorem p7 (r:List AV):AV.dv (AV.agg r)=none:=rfl
theorem r3 (j o:Nat):AV.dv (AV.lp j o)=none:=rfl
theorem r2 (j o:Nat):AV.dv (AV.gp j o)=none:=rfl
theorem rY (r:List DV) (o:Nat):AV.dv (AV.ep r o)=none:=rfl
theorem nH:AV.dv AV.FD=some .FD:=rfl
theorem r5 (i o n s e:Nat):AV.dv (AV.mv i o n s e)=none:=rfl
theorem rX (t e:Nat) (s:List UInt8):AV.dv (AV.bp t e s)=none:=rfl
theorem nG:AV.dv AV.IS=none:=rfl
theorem r4 (i n s e:Nat):AV.dv (AV.ms i n s e)=none:=rfl
theorem rZ (f:FuncId) (x y:List AV):AV.dv (AV.fn f x y)=none:=rfl
theorem p9 (x:List AV):AV.dv (AV.tup x)=none:=rfl
theorem kI:AV.dv AV.undef=none:=rfl
theorem iV:AV.rows AV.AU=some []:=rfl
theorem l7 (t e s:Nat) (r:List (List DV)):AV.rows (AV.own t e s r)=some r:=rfl
theorem iU (r:List (List DV)):AV.rows (AV.clip r)=some r:=rfl
theorem qU (r:List (List DV)):AV.rows (AV.d (.sl r))=some r:=rfl
theorem hU:OC AV.AU=some (.d (.int .i64 0)):=rfl
theorem k6 (t e s:Nat) (r:List (List DV)):OC (AV.own t e s r)=some (.d (.int .i64 r.length)):=rfl
theorem hP (r:List (List DV)):OC (AV.clip r)=some (.d (.int .i64 r.length)):=rfl
theorem nS (i n s e:Nat):OC (AV.ms i n s e)=some (.d (.int .i64 n)):=rfl
theorem nT (i o n s e:Nat):OC (AV.mv i o n s e)=some (.d (.int .i64 n)):=rfl
theorem qJ (r:List (List DV)):OC (AV.d (.sl r))=some (.d (.int .i64 r.length)):=rfl
theorem rH:BU P K [] F L σ=K F L σ:=rfl
theorem rM (b:Bool) (q:Q) (t:QT):XT P K b (.one q t) F L σ=BU P (XT P K false t) [q] F L σ:=by cases b<;>rfl
theorem rL (b:Bool) (q:Q) (t s:QT):XT P K b (.alt q t s) F L σ=(BU P (XT P K false t) [q] F L σ∧XT P K true s F L σ):=by cases b<;>rfl
theorem pD:XT P K false .done F L σ=K F L σ:=rfl
theorem pE:XT P K true .done F L σ=True:=rfl
theorem mS (v:AV) (d:Nat):XPv (some v) (some d) K F L σ=K (put d v F) L σ:=rfl
theorem sO (d:Nat) (x:X):BU P K (⟨some d,.mv x,none⟩::r) F L σ=BU P K r (put d (xv F x) F) L σ:=rfl
theorem o8 (d:Option Nat) (x y z:X):BU P K (⟨d,.pick x y z,none⟩::r) F L σ=XPv (Zi (xv F x) (xv F y) (xv F z)) d (BU P K r) F L σ:=rfl
theorem q9 (d:Option Nat) (x:X) (o:Nat):BU P K (⟨d,.fld x o,none⟩::r) F L σ=XPv (b8 (xv F x) o) d (BU P K r) F L σ:=rfl
theorem sM (d:Option Nat) (x:X) (n:Option Nat):BU P K (⟨d,.ld x n,none⟩::r) F L σ=XPv (ldA L σ (xv F x) n) d (BU P K r) F L σ:=rfl
theorem sL (d:Option Nat) (x y:X) (n:Nat):BU P K (⟨d,.ix x y n,none⟩::r) F L σ=XPv (ixA (xv F x) (xv F y) n) d (BU P K r) F L σ:=rfl
theorem pA (d:Option Nat) (x y:X):BU P K (⟨d,.Lx x y,none⟩::r) F L σ=XPv (WG (xv F x) (xv F y)) d (BU P K r) F L σ:=rfl
theorem rC (d:Option Nat) (x:X):BU P K (⟨d,.len x,none⟩::r) F L σ=XPv (OC (xv F x)) d (BU P K r) F L σ:=rfl
theorem pB (d:Option Nat) (x:X):BU P K (⟨d,.Fv x,none⟩::r) F L σ=XPv (Xk (xv F x)) d (BU P K r) F L σ:=rfl
theorem q4 (d:Option Nat) (op:BinOp) (x y:X):BU P K (⟨d,.bin op x y,none⟩::r) F L σ=XPv (fO op (xv F x) (xv F y)) d (BU P K r) F L σ:=rfl
theorem o1 (d:Option Nat) (op:BinOp) (x y:X):BU P K (⟨d,.fQ op x y,none⟩::r) F L σ=XPv (XK op (xv F x) (xv F y)) d (BU P K r) F L σ:=rfl
theorem sQ (d:Option Nat) (op:UnOp) (x:X):BU P K (⟨d,.un op x,none⟩::r) F L σ=XPv (unA op (xv F x)) d (BU P K r) F L σ:=rfl
theorem o7 (d:Option Nat) (k:IntKind) (x:X):BU P K (⟨d,.conv k x,none⟩::r) F L σ=XPv (XV k (xv F x)) d (BU P K r) F L σ:=rfl
theorem q5 (d:Option Nat) (z:List AV) (ps:List (Nat×Nat×X)):BU P K (⟨d,.bld z ps,none⟩::r) F L σ=XPv ((H6 z F ps).map .agg) d (BU P K r) F L σ:=rfl
theorem q7 (d:Option Nat) (s n:Nat) (z:List AV) (ps:List (Nat×Nat×X)):BU P K (⟨d,.bsl s n z ps,none⟩::r) F L σ=XPv (((H6 z F ps).bind dvs).map fun l=>.d (.sl (chunk s n l))) d (BU P K r) F L σ:=rfl
theorem rD (d:Option Nat) (f:FuncId) (x y:List X):BU P K (⟨d,.mkf f x y,none⟩::r) F L σ=XPv (if (xvs F x++xvs F y).all AV.BF then some (.fn f (xvs F x) (xvs F y)) else none) d (BU P K r) F L σ:=rfl
theorem q8 (d:Option Nat) (x:X) (i:Nat):BU P K (⟨d,.ext x i,none⟩::r) F L σ=XPv (gH (xv F x) i) d (BU P K r) F L σ:=rfl
theorem rG (d:Option Nat) (x:X):BU P K (⟨d,.nck x,none⟩::r) F L σ=XPv (lJ (xv F x)) d (BU P K r) F L σ:=rfl
theorem sN (d:Option Nat) (b:Bool) (x y:X):BU P K (⟨d,.mm b x y,none⟩::r) F L σ=XPv (mmA b (xv F x) (xv F y)) d (BU P K r) F L σ:=rfl
theorem q6 (d:Nat) (x:X):BU P K (⟨some d,.box x false,none⟩::r) F L σ=(Ag (xv F x).cells=true∧BU P K r (put d (.lp d 0) (DB d F)) (BA d (xv F x).cells L) σ):=rfl
theorem sE (d:Nat) (z:List AV):BU P K (⟨some d,.al z false,none⟩::r) F L σ=(Ag z=true∧BU P K r (put d (.lp d 0) (DB d F)) (BA d z L) σ):=rfl
theorem o3 (d:Nat) (x:X):BU P K (⟨some d,.box x true,none⟩::r) F L σ=(Ag (xv F x).cells=true∧∀i,σ.blk i=none→BU P K r (put d (.gp i 0) F) L (σ.AQ i (xv F x).cells)):=rfl
theorem qZ (d:Nat) (z:List AV):BU P K (⟨some d,.al z true,none⟩::r) F L σ=(Ag z=true∧∀i,σ.blk i=none→BU P K r (put d (.gp i 0) F) L (σ.AQ i z)):=rfl
def pT (K:C0) (F:Fm):Option (Lm×AF)→Prop
 |some (L',σ')=>K F L' σ'
 |none=>False
theorem mT (F:Fm) (L':Lm) (σ':AF):pT K F (some (L',σ'))=K F L' σ':=rfl
theorem sP (x v:X) (n:Nat):BU P K (⟨none,.st x v n,none⟩::r) F L σ=(Ag (xv F v).cells=true∧(xv F v).cells.length=n∧pT (BU P K r) F (stA L σ (xv F v).cells (xv F x))):=by
 show XSt _ _ _ _ _ _ _ _=_
 unfold XSt pT
 simp only [true_and]
 cases stA L σ (xv F v).cells (xv F x)<;>rfl
theorem sH (d:Option Nat) (o:O) (s:Nat) (want:Bool):BU P K (⟨d,o,some (s,want)⟩::r) F L σ=XG (gdV want (F s)) (BU P K (⟨d,o,none⟩::r) F L σ) (BU P K r (Av d (.tup []) F) L σ):=rfl
theorem sK (d:Option Nat) (o:O) (s:Nat) (want:Bool) (h:gdV want (F s)=some true):BU P K (⟨d,o,some (s,want)⟩::r) F L σ=BU P K (⟨d,o,none⟩::r) F L σ:=by rw [sH,h];rfl
theorem sI (d:Option Nat) (o:O) (s:Nat) (want:Bool) (h:gdV want (F s)=some false):BU P K (⟨d,o,some (s,want)⟩::r) F L σ=BU P K r (Av d (.tup []) F) L σ:=by rw [sH,h];rfl
theorem r6 (want b:Bool):gdV want (.d (.bool b))=some (b==want):=rfl
theorem r7 (want:Bool):gdV want (.tup [])=some false:=rfl
theorem iT (d:Nat) (v:AV) (F:Fm):Av (some d) v F=put d v F:=rfl
theorem o6 (d:Option Nat) (f:FuncId) (args:List X):BU P K (⟨d,.call f args,none⟩::r) F L σ=AI P f (xvs F args) d (BU P K r) F L σ:=rfl
theorem mR (d:Option Nat) (f:FuncId) (args:List X):BU P K (⟨d,.T2 f args,none⟩::r) F L σ=U1 P f (xvs F args) d (BU P K r) F L σ:=rfl
theorem q0 (d:Option Nat) (e s b:Nat) (x y:X):BU P K (⟨d,.app e s b x y,none⟩::r) F L σ=Dh e s b (xv F x) (xv F y) d (BU P K r) F L σ:=rfl
def pN (P:Program) (x:AV) (args:List AV) (dst:Option Nat) (K:C0) (F:Fm) (L:Lm) (σ:AF):Prop:=
 ∃f first caps,x= .fn f first caps∧C7 P f=true∧AI P f (first++args++caps) dst K F L σ
theorem mQ (d:Option Nat) (x:X) (args:List X):BU P K (⟨d,.FY x args,none⟩::r) F L σ=pN P (xv F x) (xvs F args) d (BU P K r) F L σ:=rfl
theorem rF (d:Option Nat) (e s b:Nat) (z:List AV) (x y:X):BU P K (⟨d,.msl e s b z x y,none⟩::r) F L σ=UZ e s b z (xv F x) (xv F y) d (BU P K r) F L σ:=rfl
theorem o0 (d:Option Nat) (e s b:Nat) (x y:X):BU P K (⟨d,.WZ e s b x y,none⟩::r) F L σ=Yz e s b (xv F x) (xv F y) d (BU P K r) F L σ:=rfl
theorem rK (d:Option Nat) (x y:X):BU P K (⟨d,.trn x y,none⟩::r) F L σ=pU (xv F x) (xv F y) d (BU P K r) F L σ:=rfl
theorem o5 (d:Option Nat) (e s n:Nat) (z:List AV) (ps:List (Nat×Nat×X)):BU P K (⟨d,.RP e s n z ps,none⟩::r) F L σ=RL e s n (H6 z F ps) d (BU P K r) F L σ:=rfl
theorem rA (d:Option Nat) (x:X) (n:Option Nat):BU P K (⟨d,.ldl x n,none⟩::r) F L σ=XPv (Y1 L (xv F x) n) d (BU P K r) F L σ:=rfl
theorem sG (d:Option Nat) (x:X) (o:Nat) (n:Option Nat):BU P K (⟨d,.fd x o n,none⟩::r) F L σ=XPv (fdA (xv F x) o n) d (BU P K r) F L σ:=rfl
theorem rJ (d:Option Nat) (x:X) (a b:Option X):BU P K (⟨d,.ssl x a b,none⟩::r) F L σ=XPv (PF (xv F x) (a.map (xv F)) (b.map (xv F))) d (BU P K r) F L σ:=rfl
theorem rI (d:Option Nat) (x:X) (a b c:Option X) (n:Nat):BU P K (⟨d,.sls x a b c n,none⟩::r) F L σ=XPv (iW (xv F x) (a.map (xv F)) (b.map (xv F)) (c.map (xv F)) n) d (BU P K r) F L σ:=rfl
theorem o9 (d:Option Nat) (ne:Bool) (x:X):BU P K (⟨d,.Zl ne x,none⟩::r) F L σ=XPv (Xc ne (xv F x)) d (BU P K r) F L σ:=rfl
theorem pC (d:Option Nat) (ne:Bool) (n:Nat) (x y:X):BU P K (⟨d,.aJ ne n x y,none⟩::r) F L σ=XPv (Xl ne n (xv F x) (xv F y)) d (BU P K r) F L σ:=rfl
theorem rE (d:Option Nat) (b:Bool) (x y z:X):BU P K (⟨d,.mm3 b x y z,none⟩::r) F L σ=XPv ((mmA b (xv F x) (xv F y)).bind fun v=>mmA b v (xv F z)) d (BU P K r) F L σ:=rfl
theorem o4 (d:Option Nat) (x:X):BU P K (⟨d,.fS x,none⟩::r) F L σ=XPv ((dvs (xv F x).cells).map fun ds=>.d (.ptr ds)) d (BU P K r) F L σ:=rfl
theorem sF (d:Option Nat) (k:EK) (xs:List X):BU P K (⟨d,.ex k xs,none⟩::r) F L σ=XEx k (xvs F xs) d (BU P K r) F L σ:=rfl
theorem oY (d:Option Nat) (args:List AV):XEx .cap args d K F L σ=XPv (exP .cap args) d K F L σ:=rfl
theorem oX (d:Option Nat) (args:List AV):XEx .b2s args d K F L σ=XPv (exP .b2s args) d K F L σ:=rfl
theorem oZ (d:Option Nat) (args:List AV):XEx .usd args d K F L σ=XPv (exP .usd args) d K F L σ:=rfl
theorem oW (d:Nat) (t:Nat) (z:List AV):XEx (.alt t z) [] (some d) K F L σ=(Ag z=true∧∀i,(σ.blk i=none∧σ.bt i=none)→K (put d (.gp i 0) F) L ((σ.AQ i z).DO i (z.length,t))):=by
 simp only [XEx,EK.pure,AZ,if_false,Cw,true_and,ExR,Av]
theorem XEx.aH {d:Nat} {ne b:Bool} {v:AV} (hn:v.BF=true) (hv:cW v=some b) (h:K (put d (.d (.bool (b != ne))) F) L σ):XEx (.aH ne) [v] (some d) K F L σ:=by
 refine ⟨by simp [hn],?_⟩
 show (match cW v with|some b=>_|none=>_)
 rw [hv];exact h
theorem XEx.apps {d:Option Nat} {e:Nat} {s:AV} {x:List UInt8} {rows:List (List DV)} {σ1:AF} (hn:s.BF=true) (ha:Nw σ e 1 s=some (rows,σ1)) (hl:rows.length+x.length≤140737488355328)
 (h:∀t,σ.tok t=false→K (Av d (.own t e 1 (rows++CF x)) F) L (σ1.F3 t)):XEx (.apps e) [s,.d (.str x)] d K F L σ:=
 ⟨by rw [BT,hn];rfl,rows,σ1,ha,hl,h⟩
theorem XEx.fL {d:Option Nat} {e size bytes:Nat} {z:List AV} {k:IntKind} {n:Nat} (h0:0 < n) (hb:bytes≤10000) (hn:n≤1000000000)
 (h:∀j,σ.blk j=none→K (Av d (.ms j n size e) F) L (σ.AQ j (AO n z).flatten)):XEx (.fL e size bytes z) [.AU,.d (.int k n)] d K F L σ:=by
 refine ⟨rfl,by omega,?_,by omega,?_⟩
 · have h1:n * bytes≤1000000000 * 10000:=MF hn hb
   have h2:((n * bytes:Nat):Int)≤((1000000000 * 10000:Nat):Int):=Int.ofNat_le.2 h1
   rw [Int.natCast_mul] at h2
   exact Int.le_trans h2 (by decide)
 · simpa using h
theorem XEx.jH {d:Option Nat} {e t:Nat} {s:List UInt8} {n:Int} (hl:n=s.length) (h0:s≠[]) (ht:σ.tok t=true) (h:K (Av d (.d (.str s)) F) L (σ.Ei t)):XEx (.jH e) [.bp t e s,.d (.int .i64 n)] d K F L σ:=
 ⟨rfl,⟨rfl,hl⟩,h0,ht,h⟩
theorem Yz.mk {d:Option Nat} {e size bytes n:Nat} {s x:AV} {cs:List AV} {srows:List (List DV)} {σ1:AF} (h1:LY σ e size s=some (n,cs,σ1)) (h2:x.rows=some srows)
 (h3:∀r∈srows,r.length=size) (h4:srows≠[]) (h5:n+srows.length≤1000000000) (hb:bytes≤10000)
 (h:∀j,σ.blk j=none→K (Av d (.ms j (n+srows.length) size e) F) L (σ1.AQ j (cs++G4 srows))):Yz e size bytes s x d K F L σ:=
 ⟨n,cs,σ1,srows,h1,h2,h3,fun e=>absurd e h4,by simp only [maxLen];omega,by
   calc (n+srows.length) * bytes≤1000000000 * 10000:=MF h5 hb
    _≤140737488355328:=by decide,fun _=>h⟩
theorem RL.mk {d:Option Nat} {e s n:Nat} {cs:List AV} (h:∀j,σ.blk j=none→K (Av d (.ms j n s e) F) L (σ.AQ j cs)):RL e s n (some cs) d K F L σ:=⟨cs,rfl,.inl h⟩
theorem RL.own {d:Option Nat} {e s n:Nat} {cs:List AV} {ds:List DV} (hd:dvs cs=some ds) (hn:0 < n) (h:∀t,σ.tok t=false→K (Av d (.own t e s (chunk s n ds)) F) L (σ.F3 t)):RL e s n (some cs) d K F L σ:=⟨cs,rfl,.inr ⟨ds,hd,hn,h⟩⟩
theorem m7 (n:Nat):SF n none none=some (0,n):=by simp [SF]
theorem UZ.mk {d:Option Nat} {e s b:Nat} {z:List AV} (n:Nat) (hb:b * n≤281474976710656) (hn:n≤9223372036854775807) (h:∀i,σ.blk i=none→K (Av d (.ms i n s e) F) L (σ.AQ i (AO n z).flatten)):
 UZ e s b z (.d (.int .i64 n)) (.d (.int .i64 n)) d K F L σ:=
 ⟨.i64,.i64,n,rfl,rfl,by omega,by rw [← Int.natCast_mul];omega,by omega,fun i hi=>by simpa using h i hi⟩
theorem AI.mk {d:Option Nat} {f:FuncId} {args:List AV} {Q:AV→AF→Prop} (hn:args.all AV.BF=true) (h:AK P f args σ Q) (hk:∀v σ',Q v σ'→K (Av d v F) L σ'):
 AI P f args d K F L σ:=⟨hn,Q,h,hk⟩
theorem U1.mk {d:Option Nat} {f:FuncId} {args:List AV} {v:AV} (hn:args.all AV.BF=true) (h:AK P f args σ (fun v' σ'=>v'=v∧σ'=σ)) (hk:K (Av d v F) L σ) (hv:v.BF=true:=by rfl):
 U1 P f args d K F L σ:=⟨hn,v,⟨hv,h⟩,hk⟩
theorem Dh.mk {d:Option Nat} {e size bytes:Nat} {s x:AV} {rows srows:List (List DV)} {σ1:AF} (h1:Nw σ e size s=some (rows,σ1)) (h2:x.rows=some srows)
 (h3:∀r∈srows,r.length=size) (h4:rows.length+srows.length≤maxLen) (h5:(rows.length+srows.length) * bytes≤140737488355328)
 (h:∀t,σ.tok t=false→K (Av d (.own t e size (rows++srows)) F) L (σ1.F3 t)):Dh e size bytes s x d K F L σ:= .inl ⟨rows,σ1,srows,h1,h2,h3,h4,h5,h⟩
theorem Dh.clip {d:Option Nat} {e size bytes:Nat} {x:AV} {rows srows:List (List DV)} (h2:x.rows=some srows)
 (h3:∀r∈rows,r.length=size) (h3':∀r∈srows,r.length=size) (h4:rows.length+srows.length≤1000000000) (hb:bytes≤10000)
 (h:K (Av d (.d (.sl (rows++srows))) F) L σ):Dh e size bytes (.clip rows) x d K F L σ:=
 .inr ⟨rows,srows,rfl,h2,h3,h3',by simp only [maxLen];omega,by
  calc (rows.length+srows.length) * bytes≤1000000000 * 10000:=MF h4 hb
   _≤140737488355328:=by decide,h⟩
theorem AK.args {f:FuncId} {args args':List AV} {Q:AV→AF→Prop} (h:AK P f args' σ Q) (hw:∀g vs,VRs g args vs→VRs g args' vs):AK P f args σ Q:=
 fun base g Pr w0 w vs hr hv=>h base g Pr w0 w vs hr (hw g vs hv)
theorem U0:∀(ops:List Q) {K K':C0} {F:Fm} {L:Lm} {σ:AF},(∀F L σ,K F L σ→K' F L σ)→BU P K ops F L σ→BU P K' ops F L σ
 |[],_,_,_,_,_,hk,hx=>hk _ _ _ hx
 |q::rest,K,K',F,L,σ,hk,hx=>by
  have hx:XG (gd F q.grd) (XO P q.dst (BU P K rest) F L σ q.o) (BU P K rest (Av q.dst (.tup []) F) L σ):=hx
  show XG (gd F q.grd) (XO P q.dst (BU P K' rest) F L σ q.o) (BU P K' rest (Av q.dst (.tup []) F) L σ)
  cases hc:gd F q.grd with
  |none=>rw [hc] at hx;exact hx.elim
  |some b=>
   rw [hc] at hx
   cases b
   · exact U0 rest hk hx
   · exact aY (fun F L σ h=>U0 rest hk h) hx
def Cut (live:List Nat) (F0:Fm) (L0:Lm) (σ0:AF):C0:=fun F L σ=>M4 live F=F0∧I6 live L=L0∧σ=σ0
theorem Run.qT {cx:Cx} {KK:AV→AF→Prop} {k:List CI} {ops:List Q} {live:List Nat} (hm:cx.P.follows .mixedOrders=true) (F0:Fm) (L0:Lm) (σ0:AF)
 (h1:BU cx.P (Cut live F0 L0 σ0) ops F L σ) (h2:Run cx KK k F0 L0 σ0):Run cx KK (.code (.reg ops live)::k) F L σ:=
 Run.reg hm (U0 ops (fun F L σ h=>by obtain ⟨e1,e2,e3⟩:=h;show Run cx KK k (M4 live F) (I6 live L) σ;rw [e1,e2,e3];exact h2) h1)
theorem dT {P:Program} {m m1 m':Machine} (h:step P m= .next m1) (hs:Steps P m m') (hne:m≠m'):Steps P m1 m':=by
 obtain ⟨n,hn⟩:=hs
 cases n with
 |zero=>simp only [runN] at hn;cases hn;exact absurd rfl hne
 |succ n=>simp only [runN,h] at hn;exact ⟨n,hn⟩
theorem Run.Ay {cx:Cx} {KK:AV→AF→Prop} {k:List CI} {c:C} (h:Run cx KK (.again c::k) F L σ):Run cx KK (.code (.loop c)::k) F L σ:=by
 intro items base g lam Pr a w0 w b cs hi hf hb hk
 obtain ⟨p,ys,rfl,⟨p1,rfl,h1⟩,hys⟩:=hi.code
 obtain ⟨v,w',fr,hs,hfn,hl,rest⟩:=h (.inLoop p1::ys) base g lam Pr a w0 w b cs (.cons ⟨p1,rfl,h1⟩ hys) hf hb hk
 refine ⟨v,w',fr,.head step_loop (dT step_inLoop hs fun e=>?_),hfn,hl,rest⟩
 have h2:(lone (b.at a (.inLoop p1::ys)) cs w).gs=(lone fr cs w').gs:=by rw [e]
 simp only [lone,Array.mk.injEq,List.cons.injEq,Goroutine.mk.injEq] at h2
 have h3:(b.at a (.inLoop p1::ys)).mode=fr.mode:=by rw [h2.1.1]
 rw [hl.1] at h3
 cases h3
def XJ (v:AV) (A B:Prop):Prop:=
 match v with
 | .d (.bool b)=>(b=true→A)∧(b=false→B)
 |_=>False
theorem oT (b:Bool) (A B:Prop):XJ (.d (.bool b)) A B=((b=true→A)∧(b=false→B)):=rfl
theorem oV (A B:Prop):XJ (.d (.bool true)) A B=A:=by simp [XJ]
theorem oU (A B:Prop):XJ (.d (.bool false)) A B=B:=by simp [XJ]
theorem Run.AD {cx:Cx} {KK:AV→AF→Prop} {k:List CI} {x:X} {t e:C} (h:XJ (xv F x) (Run cx KK (.code t::k) F L σ) (Run cx KK (.code e::k) F L σ)):Run cx KK (.code (.cond x t e)::k) F L σ:=by
 cases hx:xv F x<;>rw [hx] at h<;>try exact h.elim
 rename_i dv
 cases dv<;>try exact h.elim
 exact Run.cond hx h.1 h.2
mutual
def AV.plain:AV→AV
 | .AU=>.d (.sl [])
 | .FD=>.d .FD
 | .own _ _ _ rows=>.d (.sl rows)
 | .clip rows=>.d (.sl rows)
 | .agg cs=>.agg (AV.DA cs)
 | .tup vs=>.tup (AV.DA vs)
 |v=>v
def AV.DA:List AV→List AV
 |[]=>[]
 |v::l=>AV.plain v::AV.DA l
end
theorem GG (x:DV):AV.plain (AV.d x)=(AV.d x):=by simp only [AV.plain]
theorem NT:AV.plain AV.AU= .d (.sl []):=by simp only [AV.plain]
theorem iO (t e s:Nat) (r:List (List DV)):AV.plain (AV.own t e s r)= .d (.sl r):=by simp only [AV.plain]
theorem Va (r:List (List DV)):AV.plain (AV.clip r)= .d (.sl r):=by simp only [AV.plain]
theorem H8 (r:List AV):AV.plain (AV.agg r)= .agg (AV.DA r):=by simp only [AV.plain]
theorem lS (j o:Nat):AV.plain (AV.lp j o)=(AV.lp j o):=by simp only [AV.plain]
theorem Vb (j o:Nat):AV.plain (AV.gp j o)=(AV.gp j o):=by simp only [AV.plain]
theorem lQ (r:List DV) (o:Nat):AV.plain (AV.ep r o)=(AV.ep r o):=by simp only [AV.plain]
theorem Vc:AV.plain AV.FD= .d .FD:=by simp only [AV.plain]
theorem lT (i n s e:Nat):AV.plain (AV.ms i n s e)=(AV.ms i n s e):=by simp only [AV.plain]
theorem lU (i o n s e:Nat):AV.plain (AV.mv i o n s e)=(AV.mv i o n s e):=by simp only [AV.plain]
theorem lP (t e:Nat) (s:List UInt8):AV.plain (AV.bp t e s)=(AV.bp t e s):=by simp only [AV.plain]
theorem c7:AV.plain AV.IS=AV.IS:=by simp only [AV.plain]
theorem lR (f:FuncId) (x y:List AV):AV.plain (AV.fn f x y)=(AV.fn f x y):=by simp only [AV.plain]
theorem iP (x:List AV):AV.plain (AV.tup x)= .tup (AV.DA x):=by simp only [AV.plain]
theorem Zk:AV.plain AV.undef=AV.undef:=by simp only [AV.plain]
theorem NU:∀(l:List AV) (i:Nat),(AV.DA l)[i]?=(l[i]?).map AV.plain
 |[],i=>by simp [AV.DA]
 |v::l,0=>by simp [AV.DA]
 |v::l,i+1=>by simp [AV.DA,NU l i]
theorem Qr:∀l:List AV,(AV.DA l).length=l.length
 |[]=>rfl
 |v::l=>by simp [AV.DA,Qr l]
theorem c6 {v:AV} (h:v.BV=true):v.plain.BV=true:=by cases v<;>first|rfl|(cases h;done)
theorem VR.plain {g:Gh} {x:AV} {v:Value} (h:VR g x v):VR g x.plain v:=by
 induction h with
 |d h=>simpa [AV.plain] using VR.d h
 |AU=>exact .d (.nil (C1 _) (fun _=>rfl))
 |own h _ _=>exact .d h
 |clip h=>exact .d h
 |@agg cs vs hl hc _ ih=>
  refine .agg (by rw [Qr];exact hl) (fun c hcm=>?_) (fun i c v hci hvi=>?_)
  · obtain ⟨i,hi,rfl⟩:=DM hcm
    have:=NU cs i
    rw [BH hi] at this
    cases hcs:cs[i]? with
    |none=>rw [hcs] at this;cases this
    |some c'=>rw [hcs] at this;simp only [Bl,AJ] at this;rw [this];exact c6 (hc c' (AS hcs))
  · rw [NU] at hci
    cases hcs:cs[i]? with
    |none=>rw [hcs] at hci;cases hci
    |some c'=>rw [hcs] at hci;simp only [Bl,AJ] at hci;rw [← hci];exact ih i c' v hcs hvi
 |gp h=>simpa [AV.plain] using VR.gp h
 |ep hi hr=>simpa [AV.plain] using VR.ep hi hr
 |FD=>exact .d .FD
 |IS=>simpa [AV.plain] using VR.IS
 |ms h hr hn hm=>simpa [AV.plain] using VR.ms h hr hn hm
 |mv h hr hn hm ho=>simpa [AV.plain] using VR.mv h hr hn hm ho
 |bp h k=>simpa [AV.plain] using VR.bp h k
 |fn hl hl' h h' _ _=>simpa [AV.plain] using VR.fn hl hl' h h'
 |@tup cs vs hl _ ih=>
  refine .tup (by rw [Qr];exact hl) (fun i c v hci hvi=>?_)
  rw [NU] at hci
  cases hcs:cs[i]? with
  |none=>rw [hcs] at hci;cases hci
  |some c'=>rw [hcs] at hci;simp only [Bl,AJ] at hci;rw [← hci];exact ih i c' v hcs hvi
 |undef=>simpa [AV.plain] using VR.undef
theorem VRs.plain {g:Gh} {xs:List AV} {vs:List Value} (h:VRs g xs vs):VRs g (AV.DA xs) vs:=by
 induction h with
 |nil=>exact .nil
 |cons h _ ih=>exact .cons h.plain ih
theorem AK.plain {f:FuncId} {args:List AV} {Q:AV→AF→Prop} (h:AK P f (AV.DA args) σ Q):AK P f args σ Q:=
 fun base g Pr w0 w vs hr hv=>h base g Pr w0 w vs hr hv.plain
def pS (o:Option AV) (K:AV→AF→Prop) (σ:AF):Prop:=
 match o with
 |some v=>K v σ
 |none=>False
theorem jK (v:AV) (K:AV→AF→Prop) (σ:AF):pS (some v) K σ=K v σ:=rfl
theorem Run.A1 {cx:Cx} {KK:AV→AF→Prop} {k:List CI} {σ2:AF} (hg:Good cx) (hσ:σ2.le σ) (h:pS ((Ye F L σ cx.rs).map AV.plain) KK σ2):Run cx KK (.code .ret::k) F L σ:=by
 cases hr:Ye F L σ cx.rs with
 |none=>rw [hr] at h;exact h.elim
 |some v=>rw [hr] at h;exact Run.ret hg hr (fun _ _ h=>h.plain) hσ h
theorem Run.Er {cx:Cx} {KK:AV→AF→Prop} {k:List CI} {σ2:AF} (hg:Good cx) (hσ:σ2.le σ) (h:pS (Ye F L σ cx.rs) KK σ2):Run cx KK (.code .ret::k) F L σ:=by
 cases hr:Ye F L σ cx.rs with
 |none=>rw [hr] at h;exact h.elim
 |some v=>rw [hr] at h;exact Run.ret hg hr (fun _ _ h=>h) hσ h
theorem AP (σ:AF) (i j:Nat) (cs:List AV):(σ.AQ i cs).blk j=if j=i then some cs else σ.blk j:=rfl
theorem F6 (σ:AF) (i:Nat) (cs ds:List AV):(σ.AQ i cs).AQ i ds=σ.AQ i ds:=by
 unfold AF.AQ
 congr 1
 funext j
 by_cases h:j=i<;>simp [h]
theorem Hd {σ:AF} {i:Nat} {cs:List AV} (h:σ.blk i=some cs):σ.AQ i cs=σ:=by
 unfold AF.AQ
 cases σ
 congr 1
 funext j
 split
 · rename_i e;subst e;exact h.symm
 · rfl
theorem Q6 (σ:AF) (t i:Nat):(σ.F3 t).blk i=σ.blk i:=rfl
theorem bW (σ:AF) (t i:Nat):(σ.Ei t).blk i=σ.blk i:=rfl
theorem AF.le_trans {a b c:AF} (h:a.le b) (k:b.le c):a.le c:=⟨fun i cs x=>k.blk i cs (h.blk i cs x),fun t x=>k.tok t (h.tok t x),h.gt.trans k.gt,fun i x hx=>k.bt i x (h.bt i x hx)⟩
theorem Bp {σ:AF} {i:Nat} {cs:List AV} (h:σ.blk i=none):σ.le (σ.AQ i cs):=
 ⟨fun j ds hj=>by
   have:j≠i:=fun e=>by rw [e,h] at hj;cases hj
   rw [AP,if_neg this];exact hj,fun _ h=>h,rfl,fun _ _ h=>h⟩
structure Cl (σ:AF) (e s:Nat) (rows:List (List DV)) (v:AV) (σ':AF):Prop where
 app:∃σ1,Nw σ' e s v=some (rows,σ1)∧σ.le σ1
 le:σ.le σ'
 plain:v.plain= .d (.sl rows)
 len:OC v=some (.d (.int .i64 rows.length))
 cell:v.BV=true
 BF:v.BF=true
 BG:∀k,v.BG k=false
 dv:v.dv=some (.sl rows)
 cells:v.cells=[v]
theorem Cl.nil (σ:AF) (e s:Nat):Cl σ e s [] .AU σ:=
 ⟨⟨σ,rfl,AF.le_refl σ⟩,AF.le_refl σ,rfl,rfl,rfl,rfl,fun _=>rfl,rfl,rfl⟩
theorem Cl.own {σ σ1 σ':AF} {e s t:Nat} {rows:List (List DV)} (hle:σ.le σ1) (hle':σ.le σ') (ht:σ'.tok t=false):Cl σ e s rows (.own t e s rows) (σ1.F3 t):=by
 have hnt:σ.tok t=false:=by
  cases h:σ.tok t with
  |false=>rfl
  |true=>rw [hle'.tok t h] at ht;cases ht
 refine ⟨⟨(σ1.F3 t).Ei t,by simp [Nw,AF.F3],⟨fun i cs h=>hle.blk i cs h,fun t' h=>?_,hle.gt,hle.bt⟩⟩,⟨fun i cs h=>hle.blk i cs h,fun t' h=>?_,hle.gt,hle.bt⟩,rfl,rfl,rfl,rfl,fun _=>rfl,rfl,rfl⟩
 · have hne:t'≠t:=fun e=>by rw [e,hnt] at h;cases h
   simp [AF.Ei,AF.F3,hne,hle.tok t' h]
 · have hne:t'≠t:=fun e=>by rw [e,hnt] at h;cases h
   simp [AF.F3,hne,hle.tok t' h]
theorem Dh.own {σ0:AF} {d:Option Nat} {e size bytes:Nat} {s x:AV} {rows srows:List (List DV)} (ho:Cl σ0 e size rows s σ) (h2:x.rows=some srows)
 (h3:∀r∈srows,r.length=size) (h4:rows.length+srows.length≤1000000000) (hb:bytes≤10000)
 (h:∀v σ',Cl σ0 e size (rows++srows) v σ'→(∀i,σ'.blk i=σ.blk i)→K (Av d v F) L σ'):Dh e size bytes s x d K F L σ:=by
 obtain ⟨σ1,ha,hl⟩:=ho.app
 refine Dh.mk ha h2 h3 (by simp only [maxLen];omega) ?_ (fun t ht=>h _ _ (Cl.own hl ho.le ht) (fun i=>?_))
 · calc (rows.length+srows.length) * bytes≤1000000000 * 10000:=MF h4 hb
    _≤140737488355328:=by decide
 · rw [Q6]
   unfold Nw at ha
   split at ha
   · cases ha;rfl
   · split at ha
     · cases ha;rfl
     · cases ha
   · cases ha
variable {cx:Cx} {KK:AV→AF→Prop} {k:List CI}
theorem Run.facts {p:Prop} (hp:∀base g lam Pr a w0 w,Bd base g lam Pr cx.N F L σ a w0 w→p) (h:p→Run cx KK k F L σ):Run cx KK k F L σ:=
 fun items base g lam Pr a w0 w b cs hi hf hb hk=>h (hp base g lam Pr a w0 w hf) items base g lam Pr a w0 w b cs hi hf hb hk
def AV.Dl:AV→Prop
 | .d (.sl rows)=>rows.length≤9223372036854775807
 | .d (.str s)=>s.length≤9223372036854775807
 | .d (.int k n)=>k.min≤n∧n≤k.max
 | .own _ _ _ rows=>rows.length≤9223372036854775807
 | .clip rows=>rows.length≤9223372036854775807
 |_=>True
theorem VR.Dl {g:Gh} {x:AV} {v:Value} (h:VR g x v):x.Dl:=by
 cases h with
 |d h=>
  cases h with
  |int h=>exact h
  |bool=>trivial
  |str h=>exact h
  |nil=>simp [AV.Dl]
  |sl hc hm _ _ _=>exact BY hc hm
  |ptr=>trivial
  |FD=>trivial
 |own h _ _=>obtain ⟨_,_,_,h2⟩:=h.Jp;exact h2
 |clip h=>obtain ⟨_,_,_,h2⟩:=h.Jp;exact h2
 |_=>trivial
theorem SV.Dl {g:Gh} {lam:Nat→Option Nat} {x:AV} {v:Value} (h:SV g lam x v):x.Dl:=by
 cases x<;>first|exact VR.Dl h|trivial
theorem Run.slot (s:Nat) (h:(F s).Dl→Run cx KK k F L σ):Run cx KK k F L σ:=
 Run.facts (fun _ _ _ _ _ _ _ hf=>(hf.tm s).Dl) h
theorem Run.cell (j o:Nat) {cs:List AV} {c:AV} (hL:L j=some cs) (hc:cs[o]?=some c) (h:c.Dl→Run cx KK k F L σ):Run cx KK k F L σ:=
 Run.facts (fun _ _ _ _ _ _ _ hf=>by
  obtain ⟨_,b,vs,ty,_,_,_,hr⟩:=hf.loc j cs hL
  obtain ⟨v,_,hv⟩:=hr.at o c hc
  exact hv.Dl) h
end Go.Ab
