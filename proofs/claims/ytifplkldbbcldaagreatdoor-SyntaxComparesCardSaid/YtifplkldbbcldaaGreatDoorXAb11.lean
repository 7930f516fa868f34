/- Compact code, its runs at the abstract level, and contracts out of runs. Equations that run compact code at the abstract level. Conditions: none. -/
import Derived.Scope
import Derived.Test.YtifplkldbbcldaaGreatDoorXAb10d
set_option linter.unusedSimpArgs false
set_option linter.unusedVariables false
set_option maxRecDepth 4000
set_option maxHeartbeats 8000000
open List renaming range→Ir,all_cons→Bs,getD_eq_getElem?_getD→Uc,getElem?_eq_some_iff→Aa,mem_cons→CN,all_nil→Lf,replicate→Ai,getElem_of_mem→Cf,getElem?_eq_getElem→Aq,mem_of_getElem?→A6
open Option.some renaming injEq→AR
open Prod.mk renaming injEq→BY
open Option renaming getD_some→Qu,map_eq_some_iff→AK,bind_eq_some_iff→AB,bind_eq_bind→AS,map_some→C7
open Go renaming undef→Ci
open Bool renaming and_eq_true→AN,false_eq_true→A1
open Nat renaming le_refl→A8,mul_le_mul→Oh,zero_le→CS,le_trans→BC
open Array renaming replicate→Eh,getD_eq_getD_getElem?→Ch
namespace Go.Ab
open Go.RowKit
inductive C where
 |skip
 |reg (ops:List Q) (live:List Nat)
 |SZ (t:QT) (live:List Nat)
 |seq (x y:C)
 |cond (x:X) (t e:C)
 |block (id:Nat) (c:C)
 |loop (c:C)
 |exit (id:Nat)
 |ret
 |scope (c:C)
 |bad
inductive CI where
 |code (c:C)
 |blk (id:Nat)
 |scp
 |again (c:C)
def gM (P:Program) (N:Nat) (esc:List Nat) (pf:List FuncId) (live:List Nat) (pt:PT) (ops:Array Oper):Option C:=
 match pt with
 | .done=>(jV P N esc pf (Ir ops.size) ops).map fun q=>.reg q live
 |pt=>(Xq P N esc pf pt ops).map fun t=>match lin t with
  |some q=>.reg q live
  |none=>.SZ t live
def HD (P:Program) (N:Nat) (esc:List Nat) (pf:List FuncId):Code→List (List Nat×PT)→Option (C×List (List Nat×PT))
 | .skip,ct=>some (.skip,ct)
 | .region _ ops false,(live,_)::ct=>some (((NG P N esc ops (Ir ops.size)).map fun q=>C.reg q live).getD .bad,ct)
 | .region _ ops true,(live,pt)::ct=>some ((gM P N esc pf live pt ops).getD .bad,ct)
 | .seq x y,ct=>(HD P N esc pf x ct).bind fun r=>(HD P N esc pf y r.2).map fun r'=>(.seq r.1 r'.1,r'.2)
 | .cond c t e,ct=>(xo c).bind fun c'=>(HD P N esc pf t ct).bind fun r=>(HD P N esc pf e r.2).map fun r'=>(.cond c' r.1 r'.1,r'.2)
 | .block id c,ct=>(HD P N esc pf c ct).map fun r=>(.block id r.1,r.2)
 | .loop c,ct=>(HD P N esc pf c ct).map fun r=>(.loop r.1,r.2)
 | .exit id,ct=>some (.exit id,ct)
 | .ret,ct=>some (.ret,ct)
 | .scope c,ct=>(HD P N esc pf c ct).map fun r=>(.scope r.1,r.2)
 | .label _,ct=>some (.skip,ct)
 |_,_=>none
inductive RV where
 |t (n:Nat)
 |c (n:Nat) (k:Option Nat)
def W4 (P:Program):List ResultVar→Option (List RV)
 |[]=>some []
 | .tmp n::l=>do some (.t n::(← W4 P l))
 | .cell n t::l=>do
  let k ← ldN P t
  some (.c n k::(← W4 P l))
def rvA (F:Fm) (L:Lm) (σ:AM):RV→Option AV
 | .t n=>some (F n)
 | .c n k=>ldA L σ (F n) k
def iQ (F:Fm) (L:Lm) (σ:AM):List RV→Option (List AV)
 |[]=>some []
 |r::l=>do some ((← rvA F L σ r)::(← iQ F L σ l))
def cD (F:Fm) (L:Lm) (σ:AM) (rs:List RV):Option AV:=
 (iQ F L σ rs).bind fun vs=>if vs.all AV.Av then (match vs with|[v]=>some v|vs=>some (.tup vs)) else none
def YI (ks:List Nat) (F:Fm):Fm:=fun s=>if s∈ks then F s else .undef
def VK (ks:List Nat) (L:Lm):Lm:=fun s=>if s∈ks then L s else none
variable {P:Program} {base N:Nat} {g g':Gh} {Pr:Nat→Prop} {σ σ':AM} {w0 w w':World} {lam:Nat→Option Nat} {F F':Fm} {L L':Lm} {a:Act}
theorem BT.jI (h:BT base g lam Pr N F L σ a w0 w) (hF:∀s,F' s=F s∨F' s= .undef) (hL:∀k cs,L' k=some cs→L k=some cs) (hσ:σ'.le σ):BT base g lam Pr N F' L' σ' a w0 w:=by
 refine ⟨fun s=>?_,h.sz,h.df,fun k cs hk=>h.loc k cs (hL k cs hk),h.inj,h.npr,h.rel.less hσ⟩
 rcases hF s with e|e
 · rw [e];exact h.tm s
 · rw [e];exact VR.undef
theorem BT.kept (h:BT base g lam Pr N F L σ a w0 w) (ks:List Nat):BT base g lam Pr N (YI ks F) (VK ks L) σ a w0 w:=
 h.jI (fun s=>by simp only [YI];split<;>simp) (fun k cs hk=>by simp only [VK] at hk;split at hk<;>simp_all) (AM.le_refl σ)
structure Cx where
 P:Program
 f:FuncId
 fn:Func
 N:Nat
 esc:List Nat
 pf:List FuncId
 rs:List RV
def RC (cx:Cx):C→Code→Prop
 | .skip,k=>k= .skip∨∃l,k= .label l
 | .scope c,k=>∃p,k= .scope p∧RC cx c p
 | .reg ops _,k=>∃id arr,(k= .region id arr false∧NG cx.P cx.N cx.esc arr (Ir arr.size)=some ops)∨(k= .region id arr true∧∃order,jV cx.P cx.N cx.esc cx.pf order arr=some ops)∨(k= .region id arr true∧∃pt t,Xq cx.P cx.N cx.esc cx.pf pt arr=some t∧lin t=some ops)
 | .SZ t _,k=>∃id arr pt,k= .region id arr true∧Xq cx.P cx.N cx.esc cx.pf pt arr=some t
 | .seq x y,k=>∃p q,k= .seq p q∧RC cx x p∧RC cx y q
 | .cond x t e,k=>∃c p q,k= .cond c p q∧xo c=some x∧RC cx t p∧RC cx e q
 | .block id c,k=>∃p,k= .block id p∧RC cx c p
 | .loop c,k=>∃p,k= .loop p∧RC cx c p
 | .exit id,k=>k= .exit id
 | .ret,k=>k= .ret
 | .bad,_=>True
theorem AY (cx:Cx):∀(k:Code) (ct:List (List Nat×PT)) (c:C) (ct':List (List Nat×PT)),HD cx.P cx.N cx.esc cx.pf k ct=some (c,ct')→RC cx c k
 | .skip,ct,c,ct',h=>by simp only [HD,AR,BY] at h;rw [← h.1];exact .inl rfl
 | .region id ops dr,ct,c,ct',h=>by
  cases ct with
  |nil=>cases dr<;>simp only [HD] at h<;>cases h
  |cons lo ct=>
   obtain ⟨live,order⟩:=lo
   cases dr
   · simp only [HD,AR,BY] at h
     obtain ⟨rfl,_⟩:=h
     cases hq:NG cx.P cx.N cx.esc ops (Ir ops.size) with
     |none=>exact trivial
     |some qs=>exact ⟨id,ops,.inl ⟨rfl,hq⟩⟩
   · simp only [HD,AR,BY] at h
     obtain ⟨rfl,_⟩:=h
     cases hq:gM cx.P cx.N cx.esc cx.pf live order ops with
     |none=>exact trivial
     |some c'=>
     simp only [Qu]
     unfold gM at hq
     split at hq
     · simp only [AK] at hq
       obtain ⟨qs,hq',rfl⟩:=hq
       exact ⟨id,ops,.inr (.inl ⟨rfl,_,hq'⟩)⟩
     · simp only [AK] at hq
       obtain ⟨t,ht,rfl⟩:=hq
       cases hl:lin t with
       |some q=>exact ⟨id,ops,.inr (.inr ⟨rfl,_,t,ht,hl⟩)⟩
       |none=>exact ⟨id,ops,_,rfl,ht⟩
 | .seq x y,ct,c,ct',h=>by
  simp only [HD,AB,AK,BY] at h
  obtain ⟨⟨x',c1⟩,hx,⟨y',c2⟩,hy,rfl,_⟩:=h
  exact ⟨x,y,rfl,AY cx x _ _ _ hx,AY cx y _ _ _ hy⟩
 | .cond c t e,ct,c2,ct',h=>by
  simp only [HD,AB,AK,BY] at h
  obtain ⟨x,hx,⟨t',c1⟩,ht,⟨e',c3⟩,he,rfl,_⟩:=h
  exact ⟨c,t,e,rfl,hx,AY cx t _ _ _ ht,AY cx e _ _ _ he⟩
 | .block id p,ct,c,ct',h=>by
  simp only [HD,AK,BY] at h
  obtain ⟨⟨c',c1⟩,hc,rfl,_⟩:=h
  exact ⟨p,rfl,AY cx p _ _ _ hc⟩
 | .loop p,ct,c,ct',h=>by
  simp only [HD,AK,BY] at h
  obtain ⟨⟨c',c1⟩,hc,rfl,_⟩:=h
  exact ⟨p,rfl,AY cx p _ _ _ hc⟩
 | .exit id,ct,c,ct',h=>by simp only [HD,AR,BY] at h;rw [← h.1];rfl
 | .ret,ct,c,ct',h=>by simp only [HD,AR,BY] at h;rw [← h.1];rfl
 | .rangeFunc ..,ct,c,ct',h=>by simp only [HD] at h;cases h
 | .scope p,ct,c,ct',h=>by
  simp only [HD,AK,BY] at h
  obtain ⟨⟨c',c1⟩,hc,rfl,_⟩:=h
  exact ⟨p,rfl,AY cx p _ _ _ hc⟩
 | .label l,ct,c,ct',h=>by simp only [HD,AR,BY] at h;rw [← h.1];exact .inr ⟨l,rfl⟩
 | .goto _,ct,c,ct',h=>by simp only [HD] at h;cases h
 | .refuse _,ct,c,ct',h=>by simp only [HD] at h;cases h
def RI (cx:Cx):CI→Item→Prop
 | .code c,y=>∃k,y= .code k∧RC cx c k
 | .blk id,y=>y= .inBlock id
 | .scp,y=>∃k,y= .inScope k
 | .again c,y=>∃k,y= .inLoop k∧RC cx c k
inductive RIs (cx:Cx):List CI→List Item→Prop
 |nil:RIs cx [] []
 |cons {x:CI} {y:Item} {xs:List CI} {ys:List Item} (h:RI cx x y) (hs:RIs cx xs ys):RIs cx (x::xs) (y::ys)
def Good (cx:Cx):Prop:=cx.P.funcs[cx.f]?=some cx.fn∧W4 cx.P cx.fn.results.toList=some cx.rs
def Run (cx:Cx) (K:AV→AM→Prop) (todo:List CI) (F:Fm) (L:Lm) (σ:AM):Prop:=
 ∀(items:List Item) (base:Nat) (g:Gh) (lam:Nat→Option Nat) (Pr:Nat→Prop) (a:Act) (w0 w:World) (b:Frame) (cs:List Frame),
  RIs cx todo items→BT base g lam Pr cx.N F L σ a w0 w→b.fn=cx.f→b.kind= .normal→
  ∃v w' fr,Steps cx.P (lone (b.at a items) cs w) (lone fr cs w')∧fr.fn=cx.f∧fr.leaving cx.P w' (.returned v)∧
   ∃av g' σ',VR g' av v∧Rel base g' Pr σ' w0 w'∧g.le g'∧KP Pr w w'∧K av σ'
variable {cx:Cx} {K:AV→AM→Prop} {k:List CI}
theorem Run.jI (hF:∀s,F' s=F s∨F' s= .undef) (hL:∀k cs,L' k=some cs→L k=some cs) (hσ:σ'.le σ) (h:Run cx K k F' L' σ'):Run cx K k F L σ:=
 fun items base g lam Pr a w0 w b cs hi hf hb hk=>h items base g lam Pr a w0 w b cs hi (hf.jI hF hL hσ) hb hk
theorem Run.Mc {k':List CI}
 (hs:∀items,RIs cx k items→∃items',RIs cx k' items'∧∀(b:Frame) (a:Act) (cs:List Frame) (w:World),step cx.P (lone (b.at a items) cs w)= .next (lone (b.at a items') cs w))
 (h:Run cx K k' F L σ):Run cx K k F L σ:=by
 intro items base g lam Pr a w0 w b cs hi hf hb hk
 obtain ⟨items',hi',hst⟩:=hs items hi
 obtain ⟨v,w',fr,hss,rest⟩:=h items' base g lam Pr a w0 w b cs hi' hf hb hk
 exact ⟨v,w',fr,.head (hst b a cs w) hss,rest⟩
theorem RIs.code {c:C} {items:List Item} (h:RIs cx (.code c::k) items):∃p ys,items= .code p::ys∧RC cx c p∧RIs cx k ys:=by
 cases h with
 |cons hy hys=>obtain ⟨p,rfl,hp⟩:=hy;exact ⟨p,_,rfl,hp,hys⟩
theorem RIs.Mb {c:C} {p:Code} {ys:List Item} (hc:RC cx c p) (h:RIs cx k ys):RIs cx (.code c::k) (.code p::ys):= .cons ⟨p,rfl,hc⟩ h
theorem Run.skip (h:Run cx K k F L σ):Run cx K (.code .skip::k) F L σ:=
 h.Mc fun items hi=>by
  obtain ⟨p,ys,rfl,hp,hys⟩:=hi.code
  rcases hp with rfl|⟨l,rfl⟩
  · exact ⟨ys,hys,fun b a cs w=>step_skip⟩
  · exact ⟨ys,hys,fun b a cs w=>step_label⟩
theorem Run.scope {c:C} (h:Run cx K (.code c::.scp::k) F L σ):Run cx K (.code (.scope c)::k) F L σ:=
 h.Mc fun items hi=>by
  obtain ⟨p,ys,rfl,⟨p1,rfl,h1⟩,hys⟩:=hi.code
  exact ⟨_,.Mb h1 (.cons ⟨p1,rfl⟩ hys),fun b a cs w=>step_scope⟩
theorem Run.scp (h:Run cx K k F L σ):Run cx K (.scp::k) F L σ:=
 h.Mc fun items hi=>by
  cases hi with
  |cons hy hys=>obtain ⟨p,rfl⟩:=hy;exact ⟨_,hys,fun b a cs w=>step_inScope⟩
theorem Run.seq {x y:C} (h:Run cx K (.code x::.code y::k) F L σ):Run cx K (.code (.seq x y)::k) F L σ:=
 h.Mc fun items hi=>by
  obtain ⟨p,ys,rfl,⟨p1,p2,rfl,h1,h2⟩,hys⟩:=hi.code
  exact ⟨_,.Mb h1 (.Mb h2 hys),fun b a cs w=>step_seq⟩
theorem Run.block {id:Nat} {c:C} (h:Run cx K (.code c::.blk id::k) F L σ):Run cx K (.code (.block id c)::k) F L σ:=
 h.Mc fun items hi=>by
  obtain ⟨p,ys,rfl,⟨p1,rfl,h1⟩,hys⟩:=hi.code
  exact ⟨_,.Mb h1 (.cons rfl hys),fun b a cs w=>step_block⟩
theorem Run.blk {id:Nat} (h:Run cx K k F L σ):Run cx K (.blk id::k) F L σ:=
 h.Mc fun items hi=>by
  cases hi with
  |cons hy hys=>cases hy;exact ⟨_,hys,fun b a cs w=>step_inBlock⟩
theorem Run.loop {c:C} (h:Run cx K (.code c::.again c::k) F L σ):Run cx K (.code (.loop c)::k) F L σ:=
 h.Mc fun items hi=>by
  obtain ⟨p,ys,rfl,⟨p1,rfl,h1⟩,hys⟩:=hi.code
  exact ⟨_,.Mb h1 (.cons ⟨p1,rfl,h1⟩ hys),fun b a cs w=>step_loop⟩
theorem Run.again {c:C} (h:Run cx K (.code c::.again c::k) F L σ):Run cx K (.again c::k) F L σ:=
 h.Mc fun items hi=>by
  cases hi with
  |cons hy hys=>obtain ⟨p1,rfl,h1⟩:=hy;exact ⟨_,.Mb h1 (.cons ⟨p1,rfl,h1⟩ hys),fun b a cs w=>step_inLoop⟩
def Uz (id:Nat):List CI→Option (List CI)
 | .blk id'::k=>if id'=id then some k else Uz id k
 |_::k=>Uz id k
 |[]=>none
theorem LN {id:Nat}:∀(k:List CI) (items:List Item) (k':List CI),RIs cx k items→Uz id k=some k'→∃items',exitTo id items=some items'∧RIs cx k' items'
 |[],_,_,_,h=>by cases h
 |x::k,items,k',hi,h=>by
  cases hi with
  |@cons _ y _ ys hy hys=>
   cases x with
   |code c=>
    obtain ⟨p,rfl,_⟩:=hy
    obtain ⟨i',h1,h2⟩:=LN k ys k' hys (by simpa [Uz] using h)
    exact ⟨i',by simpa [exitTo] using h1,h2⟩
   |again c=>
    obtain ⟨p,rfl,_⟩:=hy
    obtain ⟨i',h1,h2⟩:=LN k ys k' hys (by simpa [Uz] using h)
    exact ⟨i',by simpa [exitTo] using h1,h2⟩
   |scp=>
    obtain ⟨p,rfl⟩:=hy
    obtain ⟨i',h1,h2⟩:=LN k ys k' hys (by simpa [Uz] using h)
    exact ⟨i',by simpa [exitTo] using h1,h2⟩
   |blk id'=>
    cases hy
    simp only [Uz] at h
    split at h
    · rename_i e
      cases h
      exact ⟨ys,by simp [exitTo,e],hys⟩
    · rename_i e
      obtain ⟨i',h1,h2⟩:=LN k ys k' hys h
      exact ⟨i',by simpa [exitTo,e] using h1,h2⟩
theorem Run.exit {id:Nat} {k':List CI} (he:Uz id k=some k') (h:Run cx K k' F L σ):Run cx K (.code (.exit id)::k) F L σ:=
 h.Mc fun items hi=>by
  obtain ⟨p,ys,rfl,hp,hys⟩:=hi.code
  cases hp
  obtain ⟨i',h1,h2⟩:=LN k ys k' hys he
  exact ⟨i',h2,fun b a cs w=>step_exit h1⟩
theorem Run.cond {x:X} {t e:C} {b:Bool} (hx:xv F x= .d (.bool b)) (ht:b=true→Run cx K (.code t::k) F L σ) (he:b=false→Run cx K (.code e::k) F L σ):
 Run cx K (.code (.cond x t e)::k) F L σ:=by
 intro items base g lam Pr a w0 w fb cs hi hf hb hk
 obtain ⟨p,ys,rfl,⟨c,p1,p2,rfl,hc,h1,h2⟩,hys⟩:=hi.code
 have hv:=Af hc hf
 rw [hx] at hv
 have hev:a.eval c= .bool b:=by generalize a.eval c=vc at hv;cases hv with|d hh=>cases hh;rfl
 cases b with
 |true=>
  obtain ⟨v,w',fr,hs,rest⟩:=ht rfl _ base g lam Pr a w0 w fb cs (.Mb h1 hys) hf hb hk
  exact ⟨v,w',fr,.head (step_cond hev) hs,rest⟩
 |false=>
  obtain ⟨v,w',fr,hs,rest⟩:=he rfl _ base g lam Pr a w0 w fb cs (.Mb h2 hys) hf hb hk
  exact ⟨v,w',fr,.head (step_cond hev) hs,rest⟩
def k5 (cx:Cx) (K:AV→AM→Prop) (k:List CI) (live:List Nat):C6:=fun F L σ=>Run cx K k (YI live F) (VK live L) σ
theorem Run.reg {ops:List Q} {live:List Nat} (hm:cx.P.follows .mixedOrders=true) (h:BL cx.P (k5 cx K k live) ops F L σ):Run cx K (.code (.reg ops live)::k) F L σ:=by
 intro items base g lam Pr a w0 w b cs hi hf hb hk
 obtain ⟨p,ys,rfl,⟨id,arr,hp⟩,hys⟩:=hi.code
 have hw:p.wp cx.P (fun e a' w'=>e= .normal∧FD base Pr cx.N w0 g w (k5 cx K k live) a' w') a w:=by
  rcases hp with ⟨rfl,hc⟩|⟨rfl,order,hc⟩|⟨rfl,pt,t,hc,hl⟩
  · exact wp_region (ZF cx.P arr cx.N cx.esc (k5 cx K k live) _ _ base g lam Pr F L σ a w0 w hc h hf (fun _ _ h=>⟨rfl,h⟩))
  · exact gS hm hc h hf
  · exact W5 hm hc (qP t ops F L σ hl h) hf
 obtain ⟨e,a',w',⟨he,g',lam',F',L',σ',hle,hkp,hf',hK⟩,harr⟩:=hw b ys cs
 subst he
 obtain ⟨v,w2,fr,hs,hfn,hl,av,g2,σ2,hvr,hrel,hle2,hkp2,hk2⟩:=hK ys base g' lam' Pr a' w0 w' b cs hys (hf'.kept live) hb hk
 exact ⟨v,w2,fr,Steps.trans harr hs,hfn,hl,av,g2,σ2,hvr,hrel,Gh.le_trans hle hle2,hkp.trans hkp2,hk2⟩
theorem Run.SZ {t:QT} {live:List Nat} (hm:cx.P.follows .mixedOrders=true) (h:XT cx.P (k5 cx K k live) false t F L σ):Run cx K (.code (.SZ t live)::k) F L σ:=by
 intro items base g lam Pr a w0 w b cs hi hf hb hk
 obtain ⟨p,ys,rfl,⟨id,arr,pt,rfl,hc⟩,hys⟩:=hi.code
 have hw:(Code.region id arr true).wp cx.P (fun e a' w'=>e= .normal∧FD base Pr cx.N w0 g w (k5 cx K k live) a' w') a w:=W5 hm hc h hf
 obtain ⟨e,a',w',⟨he,g',lam',F',L',σ',hle,hkp,hf',hK⟩,harr⟩:=hw b ys cs
 subst he
 obtain ⟨v,w2,fr,hs,hfn,hl,av,g2,σ2,hvr,hrel,hle2,hkp2,hk2⟩:=hK ys base g' lam' Pr a' w0 w' b cs hys (hf'.kept live) hb hk
 exact ⟨v,w2,fr,Steps.trans harr hs,hfn,hl,av,g2,σ2,hvr,hrel,Gh.le_trans hle hle2,hkp.trans hkp2,hk2⟩
theorem WS (hf:BT base g lam Pr N F L σ a w0 w):∀(l:List ResultVar) (rs:List RV) (vs:List AV),W4 P l=some rs→iQ F L σ rs=some vs→vs.all AV.Av=true→
 ∃xs:List Value,(l.mapM fun| .tmp t=>pure (a.tmps.getD t Ci)| .cell ad t=>do loadVar t (← asAddr (a.tmps.getD ad Ci)):Sem (List Value)).run P w= .ok xs w∧VRs g vs xs
 |[],rs,vs,hc,hv,_=>by
  simp only [W4,AR] at hc;subst hc
  simp only [iQ,AR] at hv;subst hv
  exact ⟨[],by simp,.nil⟩
 | .tmp n::l,rs,vs,hc,hv,hn=>by
  simp only [W4,AS,AB] at hc
  obtain ⟨rs',hrs,he⟩:=hc
  cases he
  simp only [iQ,AS,AB,rvA] at hv
  obtain ⟨v,hv1,vs',hvs,he⟩:=hv
  cases he;cases hv1
  simp only [Bs,AN] at hn
  obtain ⟨xs,hx,hr⟩:=WS hf l rs' vs' hrs hvs hn.2
  exact ⟨a.tmps.getD n Ci::xs,by simp only [List.mapM_cons,Sem.run_bind,Sem.run_pure,Result.andThen_ok,hx],.cons ((hf.tm n).vr hn.1) hr⟩
 | .cell n t::l,rs,vs,hc,hv,hn=>by
  simp only [W4,AS,AB] at hc
  obtain ⟨kk,hkk,rs',hrs,he⟩:=hc
  cases he
  simp only [iQ,AS,AB,rvA] at hv
  obtain ⟨v,hv1,vs',hvs,he⟩:=hv
  cases he
  simp only [Bs,AN] at hn
  obtain ⟨xs,hx,hr⟩:=WS hf l rs' vs' hrs hvs hn.2
  obtain ⟨x,hld,hvr⟩:=eF (P:=P) hkk hf (hf.tm n) hv1
  have hasaddr:(do loadVar t (← asAddr (a.tmps.getD n Ci)):Sem Value).run P w= .ok x w:=by
   have hs:=hf.tm n
   generalize a.tmps.getD n Ci=pn at hs hld
   cases hp:pn<;>simp only [hp,Instr.loadAt,Instr.sureAddr] at hld<;>try (simp at hld;done)
   rename_i ad
   cases ad with
   |none=>simp at hld
   |some ad=>simpa [asAddr,Instr.sureAddr] using hld
  exact ⟨x::xs,by simp only [Sem.run_bind] at hasaddr;simp only [List.mapM_cons,Sem.run_bind,hasaddr,hx,Result.andThen_ok,Sem.run_pure],.cons hvr hr⟩
theorem aD {fn:Func} {rs:List RV} (hc:W4 P fn.results.toList=some rs) (hf:BT base g lam Pr N F L σ a w0 w) {v:AV} (hv:cD F L σ rs=some v):
 ∃x,(results fn a.tmps).run P w= .ok x w∧VR g v x:=by
 simp only [cD,AB] at hv
 obtain ⟨vs,hvs,hv⟩:=hv
 split at hv
 case isFalse=>cases hv
 rename_i hn
 obtain ⟨xs,hx,hr⟩:=WS (P:=P) hf _ rs vs hc hvs hn
 have hrun:(results fn a.tmps).run P w= .ok (if h:xs.toArray.size=1 then xs.toArray[0] else .tuple xs.toArray) w:=by
  unfold results
  rw [Array.mapM_eq_mapM_toList]
  simp only [Sem.run_bind,Sem.run_map,Sem.run_pure]
  exact congrArg (fun r:Result (List Value)=>(r.andThen fun a w'=>Result.ok a.toArray w').andThen fun (a:Array Value) w'=>Result.ok (if h:a.size=1 then a[0] else Value.tuple a) w') hx
 have hlen:=hr.length
 cases vs with
 |nil=>
  cases hv
  cases hr
  exact ⟨_,hrun,by simpa using VR.tup (g:=g) (cs:=[]) (vs:=[]) rfl (by simp)⟩
 |cons v1 vs=>
  cases vs with
  |nil=>
   cases hv
   cases hr with|cons h1 h2=>cases h2;exact ⟨_,hrun,by simpa using h1⟩
  |cons v2 vs=>
   cases hv
   refine ⟨_,hrun,?_⟩
   have hne:¬xs.toArray.size=1:=by simp at hlen ⊢;omega
   rw [dif_neg hne]
   exact .tup hr.length hr.idx
theorem Run.fin {σ2:AM} (hg:Good cx) {v v':AV} (hv:cD F L σ cx.rs=some v) (hw:∀g x,VR g v x→VR g v' x) (hσ:σ2.le σ) (hK:K v' σ2):Run cx K [] F L σ:=by
 intro items base g lam Pr a w0 w b cs hi hf hb hk
 cases hi
 obtain ⟨x,hx,hvr⟩:=aD hg.2 hf hv
 refine ⟨x,w,_,.one step_end,hb,⟨rfl,hf.df,hk,cx.fn,by show cx.P.funcs[b.fn]?=_;rw [hb];exact hg.1,hx⟩,v',g,σ2,hw g x hvr,?_,Gh.le_refl g,KP.refl Pr w,hK⟩
 exact (hf.rel.less hσ).grow (A8 _) (fun _ _ _=>rfl) (Below.refl _ _) (fun b hp=>⟨(hf.rel.pr b (.inl hp)).1,.inl (.inl hp)⟩)
theorem Run.ret {σ2:AM} (hg:Good cx) {v v':AV} (hv:cD F L σ cx.rs=some v) (hw:∀g x,VR g v x→VR g v' x) (hσ:σ2.le σ) (hK:K v' σ2):Run cx K (.code .ret::k) F L σ:=by
 intro items base g lam Pr a w0 w b cs hi hf hb hk
 obtain ⟨p,ys,rfl,hp,hys⟩:=hi.code
 cases hp
 obtain ⟨x,hx,hvr⟩:=aD hg.2 hf hv
 refine ⟨x,w,_,.one step_ret,hb,⟨rfl,hf.df,hk,cx.fn,by show cx.P.funcs[b.fn]?=_;rw [hb];exact hg.1,hx⟩,v',g,σ2,hw g x hvr,?_,Gh.le_refl g,KP.refl Pr w,hK⟩
 exact (hf.rel.less hσ).grow (A8 _) (fun _ _ _=>rfl) (Below.refl _ _) (fun b hp=>⟨(hf.rel.pr b (.inl hp)).1,.inl (.inl hp)⟩)
def Ao (args:List AV):Fm:=fun s=>args.getD s .undef
theorem AU {args:List AV} {c:C} {code:Code} (hg:Good cx) (hb:cx.fn.body=some code) (hN:cx.fn.ntmps=cx.N) (hl:args.length≤cx.N) (hc:RC cx c code)
 (h:Run cx K [.code c] (Ao args) (fun _=>none) σ):AQ cx.P cx.f args σ K:=by
 intro base g Pr w0 w vs hrel hvs cs
 let b:Frame:= { (default:Frame) with fn:=cx.f,kind:= .normal}
 have henter:Frame.enter cx.P cx.f vs.toArray .normal=b.at { tmps:=vs.toArray++Eh (cx.fn.ntmps - vs.toArray.size) Ci,defers:=[]} [.code code]:=by
  simp [Frame.enter,Frame.at,hg.1,hb,b]
 have hvl:=hvs.length
 have hf:BT base g (fun _=>none) Pr cx.N (Ao args) (fun _=>none) σ { tmps:=vs.toArray++Eh (cx.fn.ntmps - vs.toArray.size) Ci,defers:=[]} w0 w:=by
  refine ⟨fun s=>?_,by simp;omega,rfl,fun k cs hk=>(by cases hk),fun k k' b hk=>(by cases hk),fun k b hk=>(by cases hk),?_⟩
  · simp only [Ao,Uc]
    cases hs:args[s]? with
    |none=>exact VR.undef
    |some av=>
     obtain ⟨v,hv,hr⟩:=hvs.at s av hs
     have hlt:=(Aa.1 hv).1
     have:(vs.toArray++Eh (cx.fn.ntmps - vs.toArray.size) Ci).getD s Ci=v:=by
      simp only [Ch]
      rw [Array.getElem?_append_left (by simpa using hlt)]
      simp [hv]
     show SV g _ av ((vs.toArray++Eh (cx.fn.ntmps - vs.toArray.size) Ci).getD s Ci)
     rw [this];exact SV.Ej hr
  · exact hrel.grow (A8 _) (fun _ _ _=>rfl) (Below.refl _ _) (fun b hp=>by
     rcases hp with hp|⟨k,hk⟩
     · exact ⟨(hrel.pr b hp).1,.inl hp⟩
     · cases hk)
 obtain ⟨v,w',fr,hs,hfn,hlv,av,g',σ',h1,h2,h3,h4,h5⟩:=h [.code code] base g _ Pr _ w0 w b cs (.Mb hc .nil) hf rfl rfl
 rw [← henter] at hs
 exact ⟨.returned v,w',fr,⟨v,av,g',σ',rfl,h1,h2,h3,h4,h5⟩,hs,hfn,hlv⟩
end Go.Ab
namespace Go.Ab
open Go.RowKit
variable {P:Program} {K:C6} {F:Fm} {L:Lm} {σ:AM} {r:List Q}
def E:Lm:=fun _=>none
def Tq (k:Nat) (o:Option (List AV)) (L:Lm):Lm:=fun s=>if s=k then o else L s
theorem Eg (d:Nat) (v:AV) (F:Fm) (s:Nat):put d v F s=if s=d then v else F s:=rfl
theorem rP (d:Nat) (cs:List AV) (L:Lm) (s:Nat):B6 d cs L s=if s=d then some cs else L s:=rfl
theorem zS (s:Nat):E s=none:=rfl
theorem zX (s:Nat):U s= .undef:=rfl
theorem pX (F:Fm):YI [] F=U:=rfl
theorem mN (k:Nat) (ks:List Nat) (F:Fm):YI (k::ks) F=put k (F k) (YI ks F):=by
 funext s
 simp only [YI,put,CN]
 by_cases h:s=k
 · subst h;simp
 · simp [h]
theorem mM (L:Lm):VK [] L=E:=rfl
theorem hD (k:Nat) (ks:List Nat) (L:Lm):VK (k::ks) L=Tq k (L k) (VK ks L):=by
 funext s
 simp only [VK,Tq,CN]
 by_cases h:s=k
 · subst h;simp
 · simp [h]
theorem iO (k:Nat) (cs:List AV) (L:Lm):Tq k (some cs) L=B6 k cs L:=rfl
theorem vA (k:Nat):Tq k none E=E:=by funext s;simp [Tq,E]
theorem iN (k j:Nat) (cs:List AV) (L:Lm):Tq k none (B6 j cs L)=if j=k then Tq k none L else B6 j cs (Tq k none L):=by
 funext s
 by_cases h:j=k
 · subst h
   simp only [if_true,Tq,B6]
   by_cases h2:s=j<;>simp [h2]
 · simp only [h,if_false,Tq,B6]
   by_cases h2:s=k
   · have h3:s≠j:=by omega
     rw [if_pos h2,if_neg h3,if_pos h2]
   · rw [if_neg h2]
     by_cases h3:s=j
     · rw [if_pos h3,if_pos h3]
     · rw [if_neg h3,if_neg h3,if_neg h2]
theorem nO (k:Nat) (cs ds:List AV) (L:Lm):B6 k cs (B6 k ds L)=B6 k cs L:=by
 funext s;simp only [B6];split<;>rfl
theorem ABJ (F:Fm) (n:Nat):xv F (.t n)=F n:=rfl
theorem ABI (F:Fm) (v:AV):xv F (.c v)=v:=rfl
theorem BO (a:AV):Ao [a]=put 0 a U:=by
 funext s;simp only [Ao,put,U];cases s<;>simp
theorem Ax (a b:AV):Ao [a,b]=put 0 a (put 1 b U):=by
 funext s;simp only [Ao,put,U]
 match s with|0=>rfl|1=>rfl|n+2=>simp
theorem Fb (a b c:AV):Ao [a,b,c]=put 0 a (put 1 b (put 2 c U)):=by
 funext s;simp only [Ao,put,U]
 match s with|0=>rfl|1=>rfl|2=>rfl|n+3=>simp
theorem Xf (a b c d:AV):Ao [a,b,c,d]=put 0 a (put 1 b (put 2 c (put 3 d U))):=by
 funext s;simp only [Ao,put,U]
 match s with|0=>rfl|1=>rfl|2=>rfl|3=>rfl|n+4=>simp
theorem u6 (k:Nat):DM k U=U:=by funext s;simp [DM,U,AV.BQ]
theorem nN (k d:Nat) (v:AV) (F:Fm):DM k (put d v F)=put d (if v.BQ k then .undef else v) (DM k F):=by
 funext s
 simp only [DM,put]
 by_cases h:s=d<;>simp [h]
theorem yJ (k:Nat) (x:DV):(AV.d x).BQ k=false:=rfl
theorem mX (k:Nat):AV.AW.BQ k=false:=rfl
theorem qS (k t e s:Nat) (r:List (List DV)):(AV.own t e s r).BQ k=false:=rfl
theorem mU (k:Nat) (r:List (List DV)):(AV.clip r).BQ k=false:=rfl
theorem qR (k:Nat) (r:List AV):(AV.agg r).BQ k=false:=rfl
theorem uJ (k j o:Nat):(AV.lp j o).BQ k=(j==k):=rfl
theorem uI (k j o:Nat):(AV.gp j o).BQ k=false:=rfl
theorem uG (k o:Nat) (r:List DV):(AV.ep r o).BQ k=false:=rfl
theorem mW (k:Nat):AV.FK.BQ k=false:=rfl
theorem uK (k i n s e:Nat):(AV.ms i n s e).BQ k=false:=rfl
theorem uL (k:Nat) (i o n s e:Nat):(AV.mv i o n s e).BQ k=false:=rfl
theorem uF (k:Nat) (t e:Nat) (s:List UInt8):(AV.bp t e s).BQ k=false:=rfl
theorem mV (k:Nat):AV.PK.BQ k=false:=rfl
theorem uH (k:Nat) (f:FuncId) (x y:List AV):(AV.fn f x y).BQ k=false:=rfl
theorem qT (k:Nat) (x:List AV):(AV.tup x).BQ k=false:=rfl
theorem hU (k:Nat):AV.undef.BQ k=false:=rfl
theorem sV (x:DV):AV.cells (AV.d x)=[(AV.d x)]:=rfl
theorem gJ:AV.cells AV.AW=[AV.AW]:=rfl
theorem lN (t e s:Nat) (r:List (List DV)):AV.cells (AV.own t e s r)=[(AV.own t e s r)]:=rfl
theorem gG (r:List (List DV)):AV.cells (AV.clip r)=[(AV.clip r)]:=rfl
theorem lM (r:List AV):AV.cells (AV.agg r)=r:=rfl
theorem pB (j o:Nat):AV.cells (AV.lp j o)=[(AV.lp j o)]:=rfl
theorem pA (j o:Nat):AV.cells (AV.gp j o)=[(AV.gp j o)]:=rfl
theorem o8 (r:List DV) (o:Nat):AV.cells (AV.ep r o)=[(AV.ep r o)]:=rfl
theorem gI:AV.cells AV.FK=[AV.FK]:=rfl
theorem pC (i n s e:Nat):AV.cells (AV.ms i n s e)=[(AV.ms i n s e)]:=rfl
theorem pD (i o n s e:Nat):AV.cells (AV.mv i o n s e)=[AV.mv i o n s e]:=rfl
theorem o6 (t e:Nat) (s:List UInt8):AV.cells (AV.bp t e s)=[AV.bp t e s]:=rfl
theorem gH:AV.cells AV.PK=[AV.PK]:=rfl
theorem o9 (f:FuncId) (x y:List AV):AV.cells (AV.fn f x y)=[(AV.fn f x y)]:=rfl
theorem lO (x:List AV):AV.cells (AV.tup x)=[(AV.tup x)]:=rfl
theorem dF:AV.cells AV.undef=[AV.undef]:=rfl
theorem pU (x:DV):AV.CU (AV.d x)=true:=rfl
theorem dX:AV.CU AV.AW=true:=rfl
theorem gZ (t e s:Nat) (r:List (List DV)):AV.CU (AV.own t e s r)=true:=rfl
theorem dT (r:List (List DV)):AV.CU (AV.clip r)=true:=rfl
theorem gY (r:List AV):AV.CU (AV.agg r)=false:=rfl
theorem mG (j o:Nat):AV.CU (AV.lp j o)=false:=rfl
theorem mF (j o:Nat):AV.CU (AV.gp j o)=true:=rfl
theorem mD (r:List DV) (o:Nat):AV.CU (AV.ep r o)=true:=rfl
theorem dW:AV.CU AV.FK=true:=rfl
theorem mH (i n s e:Nat):AV.CU (AV.ms i n s e)=true:=rfl
theorem mI (i o n s e:Nat):AV.CU (AV.mv i o n s e)=true:=rfl
theorem mC (t e:Nat) (s:List UInt8):AV.CU (AV.bp t e s)=true:=rfl
theorem dV:AV.CU AV.PK=true:=rfl
theorem mE (f:FuncId) (x y:List AV):AV.CU (AV.fn f x y)=true:=rfl
theorem hB (x:List AV):AV.CU (AV.tup x)=false:=rfl
theorem bH:AV.CU AV.undef=false:=rfl
theorem E0 (x:DV):AV.Av (AV.d x)=true:=rfl
theorem nD:AV.Av AV.AW=true:=rfl
theorem qX (t e s:Nat) (r:List (List DV)):AV.Av (AV.own t e s r)=true:=rfl
theorem nA (r:List (List DV)):AV.Av (AV.clip r)=true:=rfl
theorem Bu (r:List AV):AV.Av (AV.agg r)=true:=rfl
theorem uQ (j o:Nat):AV.Av (AV.lp j o)=false:=rfl
theorem J5 (j o:Nat):AV.Av (AV.gp j o)=true:=rfl
theorem uO (r:List DV) (o:Nat):AV.Av (AV.ep r o)=true:=rfl
theorem nC:AV.Av AV.FK=true:=rfl
theorem uR (i n s e:Nat):AV.Av (AV.ms i n s e)=true:=rfl
theorem uS (i o n s e:Nat):AV.Av (AV.mv i o n s e)=true:=rfl
theorem uN (t e:Nat) (s:List UInt8):AV.Av (AV.bp t e s)=true:=rfl
theorem nB:AV.Av AV.PK=true:=rfl
theorem uP (f:FuncId) (x y:List AV):AV.Av (AV.fn f x y)=true:=rfl
theorem qY (x:List AV):AV.Av (AV.tup x)=true:=rfl
theorem iA:AV.Av AV.undef=true:=rfl
theorem ABA (x:DV):AV.dv (AV.d x)=some x:=rfl
theorem tE:AV.dv AV.AW=some (.sl []):=rfl
theorem xR (t e s:Nat) (r:List (List DV)):AV.dv (AV.own t e s r)=some (.sl r):=rfl
theorem tB (r:List (List DV)):AV.dv (AV.clip r)=some (.sl r):=rfl
theorem xQ (r:List AV):AV.dv (AV.agg r)=none:=rfl
theorem z8 (j o:Nat):AV.dv (AV.lp j o)=none:=rfl
theorem z7 (j o:Nat):AV.dv (AV.gp j o)=none:=rfl
theorem z1 (r:List DV) (o:Nat):AV.dv (AV.ep r o)=none:=rfl
theorem tD:AV.dv AV.FK=some .FK:=rfl
theorem AAB (i o n s e:Nat):AV.dv (AV.mv i o n s e)=none:=rfl
theorem zZ (t e:Nat) (s:List UInt8):AV.dv (AV.bp t e s)=none:=rfl
theorem tC:AV.dv AV.PK=none:=rfl
theorem AAA (i n s e:Nat):AV.dv (AV.ms i n s e)=none:=rfl
theorem z6 (f:FuncId) (x y:List AV):AV.dv (AV.fn f x y)=none:=rfl
theorem xS (x:List AV):AV.dv (AV.tup x)=none:=rfl
theorem pM:AV.dv AV.undef=none:=rfl
theorem nR:AV.rows AV.AW=some []:=rfl
theorem rS (t e s:Nat) (r:List (List DV)):AV.rows (AV.own t e s r)=some r:=rfl
theorem nQ (r:List (List DV)):AV.rows (AV.clip r)=some r:=rfl
theorem yT (r:List (List DV)):AV.rows (AV.d (.sl r))=some r:=rfl
theorem mR:TO AV.AW=some (.d (.int .i64 0)):=rfl
theorem qH (t e s:Nat) (r:List (List DV)):TO (AV.own t e s r)=some (.d (.int .i64 r.length)):=rfl
theorem mQ (r:List (List DV)):TO (AV.clip r)=some (.d (.int .i64 r.length)):=rfl
theorem tV (i n s e:Nat):TO (AV.ms i n s e)=some (.d (.int .i64 n)):=rfl
theorem tW (i o n s e:Nat):TO (AV.mv i o n s e)=some (.d (.int .i64 n)):=rfl
theorem yD (r:List (List DV)):TO (AV.d (.sl r))=some (.d (.int .i64 r.length)):=rfl
theorem zM:BL P K [] F L σ=K F L σ:=rfl
theorem zR (b:Bool) (q:Q) (t:QT):XT P K b (.one q t) F L σ=BL P (XT P K false t) [q] F L σ:=by cases b<;>rfl
theorem zQ (b:Bool) (q:Q) (t s:QT):XT P K b (.alt q t s) F L σ=(BL P (XT P K false t) [q] F L σ∧XT P K true s F L σ):=by cases b<;>rfl
theorem wG:XT P K false .done F L σ=K F L σ:=rfl
theorem wH:XT P K true .done F L σ=True:=rfl
theorem sK (v:AV) (d:Nat):XPv (some v) (some d) K F L σ=K (put d v F) L σ:=rfl
theorem AA5 (d:Nat) (x:X):BL P K (⟨some d,.mv x,none⟩::r) F L σ=BL P K r (put d (xv F x) F) L σ:=rfl
theorem wB (d:Option Nat) (x y z:X):BL P K (⟨d,.pick x y z,none⟩::r) F L σ=XPv (eR (xv F x) (xv F y) (xv F z)) d (BL P K r) F L σ:=rfl
theorem zF (d:Option Nat) (x:X) (o:Nat):BL P K (⟨d,.fld x o,none⟩::r) F L σ=XPv (gT (xv F x) o) d (BL P K r) F L σ:=rfl
theorem AA3 (d:Option Nat) (x:X) (n:Option Nat):BL P K (⟨d,.ld x n,none⟩::r) F L σ=XPv (ldA L σ (xv F x) n) d (BL P K r) F L σ:=rfl
theorem AA2 (d:Option Nat) (x y:X) (n:Nat):BL P K (⟨d,.ix x y n,none⟩::r) F L σ=XPv (ixA (xv F x) (xv F y) n) d (BL P K r) F L σ:=rfl
theorem wD (d:Option Nat) (x y:X):BL P K (⟨d,.Yh x y,none⟩::r) F L σ=XPv (Yi (xv F x) (xv F y)) d (BL P K r) F L σ:=rfl
theorem zH (d:Option Nat) (x:X):BL P K (⟨d,.len x,none⟩::r) F L σ=XPv (TO (xv F x)) d (BL P K r) F L σ:=rfl
theorem wE (d:Option Nat) (x:X):BL P K (⟨d,.Mm x,none⟩::r) F L σ=XPv (aE (xv F x)) d (BL P K r) F L σ:=rfl
theorem zA (d:Option Nat) (op:BinOp) (x y:X):BL P K (⟨d,.bin op x y,none⟩::r) F L σ=XPv (lG op (xv F x) (xv F y)) d (BL P K r) F L σ:=rfl
theorem vX (d:Option Nat) (op:BinOp) (x y:X):BL P K (⟨d,.gA op x y,none⟩::r) F L σ=XPv (Zf op (xv F x) (xv F y)) d (BL P K r) F L σ:=rfl
theorem AA7 (d:Option Nat) (op:UnOp) (x:X):BL P K (⟨d,.un op x,none⟩::r) F L σ=XPv (unA op (xv F x)) d (BL P K r) F L σ:=rfl
theorem wA (d:Option Nat) (k:IntKind) (x:X):BL P K (⟨d,.conv k x,none⟩::r) F L σ=XPv (Zj k (xv F x)) d (BL P K r) F L σ:=rfl
theorem zB (d:Option Nat) (z:List AV) (ps:List (Nat×Nat×X)):BL P K (⟨d,.bld z ps,none⟩::r) F L σ=XPv ((Ii z F ps).map .agg) d (BL P K r) F L σ:=rfl
theorem zD (d:Option Nat) (s n:Nat) (z:List AV) (ps:List (Nat×Nat×X)):BL P K (⟨d,.bsl s n z ps,none⟩::r) F L σ=XPv (((Ii z F ps).bind dvs).map fun l=>.d (.sl (chunk s n l))) d (BL P K r) F L σ:=rfl
theorem zI (d:Option Nat) (f:FuncId) (x y:List X):BL P K (⟨d,.mkf f x y,none⟩::r) F L σ=XPv (if (xvs F x++xvs F y).all AV.Av then some (.fn f (xvs F x) (xvs F y)) else none) d (BL P K r) F L σ:=rfl
theorem zE (d:Option Nat) (x:X) (i:Nat):BL P K (⟨d,.ext x i,none⟩::r) F L σ=XPv (lS (xv F x) i) d (BL P K r) F L σ:=rfl
theorem zL (d:Option Nat) (x:X):BL P K (⟨d,.nck x,none⟩::r) F L σ=XPv (qV (xv F x)) d (BL P K r) F L σ:=rfl
theorem AA4 (d:Option Nat) (b:Bool) (x y:X):BL P K (⟨d,.mm b x y,none⟩::r) F L σ=XPv (mmA b (xv F x) (xv F y)) d (BL P K r) F L σ:=rfl
theorem zC (d:Nat) (x:X):BL P K (⟨some d,.box x false,none⟩::r) F L σ=(Ag (xv F x).cells=true∧BL P K r (put d (.lp d 0) (DM d F)) (B6 d (xv F x).cells L) σ):=rfl
theorem AAV (d:Nat) (z:List AV):BL P K (⟨some d,.al z false,none⟩::r) F L σ=(Ag z=true∧BL P K r (put d (.lp d 0) (DM d F)) (B6 d z L) σ):=rfl
theorem vY (d:Nat) (x:X):BL P K (⟨some d,.box x true,none⟩::r) F L σ=(Ag (xv F x).cells=true∧∀i,σ.blk i=none→BL P K r (put d (.gp i 0) F) L (σ.AL i (xv F x).cells)):=rfl
theorem y8 (d:Nat) (z:List AV):BL P K (⟨some d,.al z true,none⟩::r) F L σ=(Ag z=true∧∀i,σ.blk i=none→BL P K r (put d (.gp i 0) F) L (σ.AL i z)):=rfl
def w3 (K:C6) (F:Fm):Option (Lm×AM)→Prop
 |some (L',σ')=>K F L' σ'
 |none=>False
theorem sL (F:Fm) (L':Lm) (σ':AM):w3 K F (some (L',σ'))=K F L' σ':=rfl
theorem AA6 (x v:X) (n:Nat):BL P K (⟨none,.st x v n,none⟩::r) F L σ=(Ag (xv F v).cells=true∧(xv F v).cells.length=n∧w3 (BL P K r) F (stA L σ (xv F v).cells (xv F x))):=by
 show XSt _ _ _ _ _ _ _ _=_
 unfold XSt w3
 simp only [true_and]
 cases stA L σ (xv F v).cells (xv F x)<;>rfl
theorem AAY (d:Option Nat) (o:O) (s:Nat) (want:Bool):BL P K (⟨d,o,some (s,want)⟩::r) F L σ=XG (gdV want (F s)) (BL P K (⟨d,o,none⟩::r) F L σ) (BL P K r (Ap d (.tup []) F) L σ):=rfl
theorem AA1 (d:Option Nat) (o:O) (s:Nat) (want:Bool) (h:gdV want (F s)=some true):BL P K (⟨d,o,some (s,want)⟩::r) F L σ=BL P K (⟨d,o,none⟩::r) F L σ:=by rw [AAY,h];rfl
theorem AAZ (d:Option Nat) (o:O) (s:Nat) (want:Bool) (h:gdV want (F s)=some false):BL P K (⟨d,o,some (s,want)⟩::r) F L σ=BL P K r (Ap d (.tup []) F) L σ:=by rw [AAY,h];rfl
theorem AAC (want b:Bool):gdV want (.d (.bool b))=some (b==want):=rfl
theorem AAD (want:Bool):gdV want (.tup [])=some false:=rfl
theorem nP (d:Nat) (v:AV) (F:Fm):Ap (some d) v F=put d v F:=rfl
theorem v8 (d:Option Nat) (f:FuncId) (args:List X):BL P K (⟨d,.call f args,none⟩::r) F L σ=AI P f (xvs F args) d (BL P K r) F L σ:=rfl
theorem sJ (d:Option Nat) (f:FuncId) (args:List X):BL P K (⟨d,.Wd f args,none⟩::r) F L σ=Xa P f (xvs F args) d (BL P K r) F L σ:=rfl
theorem y9 (d:Option Nat) (e s b:Nat) (x y:X):BL P K (⟨d,.app e s b x y,none⟩::r) F L σ=Oj e s b (xv F x) (xv F y) d (BL P K r) F L σ:=rfl
def wU (P:Program) (x:AV) (args:List AV) (dst:Option Nat) (K:C6) (F:Fm) (L:Lm) (σ:AM):Prop:=
 ∃f first caps,x= .fn f first caps∧Am P f=true∧AI P f (first++args++caps) dst K F L σ
theorem sH (d:Option Nat) (x:X) (args:List X):BL P K (⟨d,.DI x args,none⟩::r) F L σ=wU P (xv F x) (xvs F args) d (BL P K r) F L σ:=rfl
theorem zK (d:Option Nat) (e s b:Nat) (z:List AV) (x y:X):BL P K (⟨d,.msl e s b z x y,none⟩::r) F L σ=oK e s b z (xv F x) (xv F y) d (BL P K r) F L σ:=rfl
theorem vW (d:Option Nat) (e s b:Nat) (x y:X):BL P K (⟨d,.ZH e s b x y,none⟩::r) F L σ=cZ e s b (xv F x) (xv F y) d (BL P K r) F L σ:=rfl
theorem zP (d:Option Nat) (x y:X):BL P K (⟨d,.trn x y,none⟩::r) F L σ=w4 (xv F x) (xv F y) d (BL P K r) F L σ:=rfl
theorem v7 (d:Option Nat) (e s n:Nat) (z:List AV) (ps:List (Nat×Nat×X)):BL P K (⟨d,.Mt e s n z ps,none⟩::r) F L σ=Ia e s n (Ii z F ps) d (BL P K r) F L σ:=rfl
theorem zG (d:Option Nat) (x:X) (n:Option Nat):BL P K (⟨d,.ldl x n,none⟩::r) F L σ=XPv (bP L (xv F x) n) d (BL P K r) F L σ:=rfl
theorem AAX (d:Option Nat) (x:X) (o:Nat) (n:Option Nat):BL P K (⟨d,.fd x o n,none⟩::r) F L σ=XPv (fdA (xv F x) o n) d (BL P K r) F L σ:=rfl
theorem zO (d:Option Nat) (x:X) (a b:Option X):BL P K (⟨d,.ssl x a b,none⟩::r) F L σ=XPv (XK (xv F x) (a.map (xv F)) (b.map (xv F))) d (BL P K r) F L σ:=rfl
theorem zN (d:Option Nat) (x:X) (a b c:Option X) (n:Nat):BL P K (⟨d,.sls x a b c n,none⟩::r) F L σ=XPv (nS (xv F x) (a.map (xv F)) (b.map (xv F)) (c.map (xv F)) n) d (BL P K r) F L σ:=rfl
theorem wC (d:Option Nat) (ne:Bool) (x:X):BL P K (⟨d,.iK ne x,none⟩::r) F L σ=XPv (aA ne (xv F x)) d (BL P K r) F L σ:=rfl
theorem wF (d:Option Nat) (ne:Bool) (n:Nat) (x y:X):BL P K (⟨d,.iZ ne n x y,none⟩::r) F L σ=XPv (aF ne n (xv F x) (xv F y)) d (BL P K r) F L σ:=rfl
theorem zJ (d:Option Nat) (b:Bool) (x y z:X):BL P K (⟨d,.mm3 b x y z,none⟩::r) F L σ=XPv ((mmA b (xv F x) (xv F y)).bind fun v=>mmA b v (xv F z)) d (BL P K r) F L σ:=rfl
theorem vZ (d:Option Nat) (x:X):BL P K (⟨d,.oY x,none⟩::r) F L σ=XPv ((dvs (xv F x).cells).map fun ds=>.d (.ptr ds)) d (BL P K r) F L σ:=rfl
theorem AAW (d:Option Nat) (k:EK) (xs:List X):BL P K (⟨d,.ex k xs,none⟩::r) F L σ=XEx k (xvs F xs) d (BL P K r) F L σ:=rfl
theorem vU (d:Option Nat) (args:List AV):XEx .cap args d K F L σ=XPv (exP .cap args) d K F L σ:=rfl
theorem vT (d:Option Nat) (args:List AV):XEx .b2s args d K F L σ=XPv (exP .b2s args) d K F L σ:=rfl
theorem vV (d:Option Nat) (args:List AV):XEx .usd args d K F L σ=XPv (exP .usd args) d K F L σ:=rfl
theorem vS (d:Nat) (t:Nat) (z:List AV):XEx (.alt t z) [] (some d) K F L σ=(Ag z=true∧∀i,(σ.blk i=none∧σ.bt i=none)→K (put d (.gp i 0) F) L ((σ.AL i z).Gq i (z.length,t))):=by
 simp only [XEx,EK.pure,A1,if_false,Lf,true_and,ExR,Ap]
theorem XEx.dB {d:Nat} {t n:Nat} {v:AV} (hn:v.Av=true) (h1:Ag v.cells=true) (h2:v.cells.length=n) (h:∀i,(σ.blk i=none∧σ.bt i=none)→K (put d (.gp i 0) F) L ((σ.AL i v.cells).Gq i (n,t))):XEx (.dB t n) [v] (some d) K F L σ:=by
 refine ⟨by simp [hn],?_⟩
 exact ⟨⟨h1,h2⟩,h⟩
theorem XEx.e5 {d:Nat} {ne b:Bool} {v:AV} (hn:v.Av=true) (hv:hY v=some b) (h:K (put d (.d (.bool (b != ne))) F) L σ):XEx (.e5 ne) [v] (some d) K F L σ:=by
 refine ⟨by simp [hn],?_⟩
 show (match hY v with|some b=>_|none=>_)
 rw [hv];exact h
theorem XEx.apps {d:Option Nat} {e:Nat} {s:AV} {x:List UInt8} {rows:List (List DV)} {σ1:AM} (hn:s.Av=true) (ha:Pk σ e 1 s=some (rows,σ1)) (hl:rows.length+x.length≤140737488355328)
 (h:∀t,σ.tok t=false→K (Ap d (.own t e 1 (rows++BD x)) F) L (σ1.D4 t)):XEx (.apps e) [s,.d (.str x)] d K F L σ:=
 ⟨by rw [Bs,hn];rfl,rows,σ1,ha,hl,h⟩
theorem XEx.lB {d:Option Nat} {e size bytes:Nat} {z:List AV} {k:IntKind} {n:Nat} (h0:0 < n) (hb:bytes≤10000) (hn:n≤1000000000)
 (h:∀j,σ.blk j=none→K (Ap d (.ms j n size e) F) L (σ.AL j (Ai n z).flatten)):XEx (.lB e size bytes z) [.AW,.d (.int k n)] d K F L σ:=by
 refine ⟨rfl,by omega,?_,by omega,?_⟩
 · have h1:n * bytes≤1000000000 * 10000:=Oh hn hb
   have h2:((n * bytes:Nat):Int)≤((1000000000 * 10000:Nat):Int):=Int.ofNat_le.2 h1
   rw [Int.natCast_mul] at h2
   exact Int.le_trans h2 (by decide)
 · simpa using h
theorem XEx.fH {d:Option Nat} {e t:Nat} {s:List UInt8} {n:Int} (hl:n=s.length) (h0:s≠[]) (ht:σ.tok t=true) (h:K (Ap d (.d (.str s)) F) L (σ.FI t)):XEx (.fH e) [.bp t e s,.d (.int .i64 n)] d K F L σ:=
 ⟨rfl,⟨rfl,hl⟩,h0,ht,h⟩
theorem cZ.mk {d:Option Nat} {e size bytes n:Nat} {s x:AV} {cs:List AV} {srows:List (List DV)} {σ1:AM} (h1:T4 σ e size s=some (n,cs,σ1)) (h2:x.rows=some srows)
 (h3:∀r∈srows,r.length=size) (h4:srows≠[]) (h5:n+srows.length≤1000000000) (hb:bytes≤10000)
 (h:∀j,σ.blk j=none→K (Ap d (.ms j (n+srows.length) size e) F) L (σ1.AL j (cs++HS srows))):cZ e size bytes s x d K F L σ:=
 ⟨n,cs,σ1,srows,h1,h2,h3,fun e=>absurd e h4,by simp only [maxLen];omega,by
   calc (n+srows.length) * bytes≤1000000000 * 10000:=Oh h5 hb
    _≤140737488355328:=by decide,fun _=>h⟩
theorem Ia.mk {d:Option Nat} {e s n:Nat} {cs:List AV} (h:∀j,σ.blk j=none→K (Ap d (.ms j n s e) F) L (σ.AL j cs)):Ia e s n (some cs) d K F L σ:=⟨cs,rfl,.inl h⟩
theorem Ia.own {d:Option Nat} {e s n:Nat} {cs:List AV} {ds:List DV} (hd:dvs cs=some ds) (hn:0 < n) (h:∀t,σ.tok t=false→K (Ap d (.own t e s (chunk s n ds)) F) L (σ.D4 t)):Ia e s n (some cs) d K F L σ:=⟨cs,rfl,.inr ⟨ds,hd,hn,h⟩⟩
theorem sU (n:Nat):Xg n none none=some (0,n):=by simp [Xg]
theorem oK.mk {d:Option Nat} {e s b:Nat} {z:List AV} (n:Nat) (hb:b * n≤281474976710656) (hn:n≤9223372036854775807) (h:∀i,σ.blk i=none→K (Ap d (.ms i n s e) F) L (σ.AL i (Ai n z).flatten)):
 oK e s b z (.d (.int .i64 n)) (.d (.int .i64 n)) d K F L σ:=
 ⟨.i64,.i64,n,rfl,rfl,by omega,by rw [← Int.natCast_mul];omega,by omega,fun i hi=>by simpa using h i hi⟩
theorem AI.mk {d:Option Nat} {f:FuncId} {args:List AV} {Q:AV→AM→Prop} (hn:args.all AV.Av=true) (h:AQ P f args σ Q) (hk:∀v σ',Q v σ'→K (Ap d v F) L σ'):
 AI P f args d K F L σ:=⟨hn,Q,h,hk⟩
theorem Xa.mk {d:Option Nat} {f:FuncId} {args:List AV} {v:AV} (hn:args.all AV.Av=true) (h:AQ P f args σ (fun v' σ'=>v'=v∧σ'=σ)) (hk:K (Ap d v F) L σ) (hv:v.Av=true:=by rfl):
 Xa P f args d K F L σ:=⟨hn,v,⟨hv,h⟩,hk⟩
theorem Oj.mk {d:Option Nat} {e size bytes:Nat} {s x:AV} {rows srows:List (List DV)} {σ1:AM} (h1:Pk σ e size s=some (rows,σ1)) (h2:x.rows=some srows)
 (h3:∀r∈srows,r.length=size) (h4:rows.length+srows.length≤maxLen) (h5:(rows.length+srows.length) * bytes≤140737488355328)
 (h:∀t,σ.tok t=false→K (Ap d (.own t e size (rows++srows)) F) L (σ1.D4 t)):Oj e size bytes s x d K F L σ:= .inl ⟨rows,σ1,srows,h1,h2,h3,h4,h5,h⟩
theorem Oj.clip {d:Option Nat} {e size bytes:Nat} {x:AV} {rows srows:List (List DV)} (h2:x.rows=some srows)
 (h3:∀r∈rows,r.length=size) (h3':∀r∈srows,r.length=size) (h4:rows.length+srows.length≤1000000000) (hb:bytes≤10000)
 (h:K (Ap d (.d (.sl (rows++srows))) F) L σ):Oj e size bytes (.clip rows) x d K F L σ:=
 .inr ⟨rows,srows,rfl,h2,h3,h3',by simp only [maxLen];omega,by
  calc (rows.length+srows.length) * bytes≤1000000000 * 10000:=Oh h4 hb
   _≤140737488355328:=by decide,h⟩
theorem AQ.args {f:FuncId} {args args':List AV} {Q:AV→AM→Prop} (h:AQ P f args' σ Q) (hw:∀g vs,VRs g args vs→VRs g args' vs):AQ P f args σ Q:=
 fun base g Pr w0 w vs hr hv=>h base g Pr w0 w vs hr (hw g vs hv)
def Cut (live:List Nat) (F0:Fm) (L0:Lm) (σ0:AM):C6:=fun F L σ=>YI live F=F0∧VK live L=L0∧σ=σ0
theorem iY {P:Program} {m m1 m':Machine} (h:step P m= .next m1) (hs:Steps P m m') (hne:m≠m'):Steps P m1 m':=by
 obtain ⟨n,hn⟩:=hs
 cases n with
 |zero=>simp only [runN] at hn;cases hn;exact absurd rfl hne
 |succ n=>simp only [runN,h] at hn;exact ⟨n,hn⟩
theorem Run.Bl {cx:Cx} {KK:AV→AM→Prop} {k:List CI} {c:C} (h:Run cx KK (.again c::k) F L σ):Run cx KK (.code (.loop c)::k) F L σ:=by
 intro items base g lam Pr a w0 w b cs hi hf hb hk
 obtain ⟨p,ys,rfl,⟨p1,rfl,h1⟩,hys⟩:=hi.code
 obtain ⟨v,w',fr,hs,hfn,hl,rest⟩:=h (.inLoop p1::ys) base g lam Pr a w0 w b cs (.cons ⟨p1,rfl,h1⟩ hys) hf hb hk
 refine ⟨v,w',fr,.head step_loop (iY step_inLoop hs fun e=>?_),hfn,hl,rest⟩
 have h2:(lone (b.at a (.inLoop p1::ys)) cs w).gs=(lone fr cs w').gs:=by rw [e]
 simp only [lone,Array.mk.injEq,List.cons.injEq,Goroutine.mk.injEq] at h2
 have h3:(b.at a (.inLoop p1::ys)).mode=fr.mode:=by rw [h2.1.1]
 rw [hl.1] at h3
 cases h3
def Z9 (v:AV) (A B:Prop):Prop:=
 match v with
 | .d (.bool b)=>(b=true→A)∧(b=false→B)
 |_=>False
theorem vP (b:Bool) (A B:Prop):Z9 (.d (.bool b)) A B=((b=true→A)∧(b=false→B)):=rfl
theorem vR (A B:Prop):Z9 (.d (.bool true)) A B=A:=by simp [Z9]
theorem vQ (A B:Prop):Z9 (.d (.bool false)) A B=B:=by simp [Z9]
theorem Run.AJ {cx:Cx} {KK:AV→AM→Prop} {k:List CI} {x:X} {t e:C} (h:Z9 (xv F x) (Run cx KK (.code t::k) F L σ) (Run cx KK (.code e::k) F L σ)):Run cx KK (.code (.cond x t e)::k) F L σ:=by
 cases hx:xv F x<;>rw [hx] at h<;>try exact h.elim
 rename_i dv
 cases dv<;>try exact h.elim
 exact Run.cond hx h.1 h.2
mutual
def AV.plain:AV→AV
 | .AW=>.d (.sl [])
 | .FK=>.d .FK
 | .own _ _ _ rows=>.d (.sl rows)
 | .clip rows=>.d (.sl rows)
 | .agg cs=>.agg (AV.FL cs)
 | .tup vs=>.tup (AV.FL vs)
 |v=>v
def AV.FL:List AV→List AV
 |[]=>[]
 |v::l=>AV.plain v::AV.FL l
end
theorem b9 (x:DV):AV.plain (AV.d x)=(AV.d x):=by simp only [AV.plain]
theorem UX:AV.plain AV.AW= .d (.sl []):=by simp only [AV.plain]
theorem nH (t e s:Nat) (r:List (List DV)):AV.plain (AV.own t e s r)= .d (.sl r):=by simp only [AV.plain]
theorem iH (r:List (List DV)):AV.plain (AV.clip r)= .d (.sl r):=by simp only [AV.plain]
theorem WI (r:List AV):AV.plain (AV.agg r)= .agg (AV.FL r):=by simp only [AV.plain]
theorem rE (j o:Nat):AV.plain (AV.lp j o)=(AV.lp j o):=by simp only [AV.plain]
theorem rD (j o:Nat):AV.plain (AV.gp j o)=(AV.gp j o):=by simp only [AV.plain]
theorem rC (r:List DV) (o:Nat):AV.plain (AV.ep r o)=(AV.ep r o):=by simp only [AV.plain]
theorem iJ:AV.plain AV.FK= .d .FK:=by simp only [AV.plain]
theorem rF (i n s e:Nat):AV.plain (AV.ms i n s e)=(AV.ms i n s e):=by simp only [AV.plain]
theorem rG (i o n s e:Nat):AV.plain (AV.mv i o n s e)=(AV.mv i o n s e):=by simp only [AV.plain]
theorem rB (t e:Nat) (s:List UInt8):AV.plain (AV.bp t e s)=(AV.bp t e s):=by simp only [AV.plain]
theorem iI:AV.plain AV.PK=AV.PK:=by simp only [AV.plain]
theorem plain_fn (f:FuncId) (x y:List AV):AV.plain (AV.fn f x y)=(AV.fn f x y):=by simp only [AV.plain]
theorem nI (x:List AV):AV.plain (AV.tup x)= .tup (AV.FL x):=by simp only [AV.plain]
theorem eT:AV.plain AV.undef=AV.undef:=by simp only [AV.plain]
theorem NY:∀(l:List AV) (i:Nat),(AV.FL l)[i]?=(l[i]?).map AV.plain
 |[],i=>by simp [AV.FL]
 |v::l,0=>by simp [AV.FL]
 |v::l,i+1=>by simp [AV.FL,NY l i]
theorem UY:∀l:List AV,(AV.FL l).length=l.length
 |[]=>rfl
 |v::l=>by simp [AV.FL,UY l]
theorem YU {v:AV} (h:v.CU=true):v.plain.CU=true:=by cases v<;>first|rfl|(cases h;done)
theorem VR.plain {g:Gh} {x:AV} {v:Value} (h:VR g x v):VR g x.plain v:=by
 induction h with
 |d h=>simpa [AV.plain] using VR.d h
 |AW=>exact .d (.nil (CS _) (fun _=>rfl))
 |own h _ _=>exact .d h
 |clip h=>exact .d h
 |@agg cs vs hl hc _ ih=>
  refine .agg (by rw [UY];exact hl) (fun c hcm=>?_) (fun i c v hci hvi=>?_)
  · obtain ⟨i,hi,rfl⟩:=Cf hcm
    have:=NY cs i
    rw [Aq hi] at this
    cases hcs:cs[i]? with
    |none=>rw [hcs] at this;cases this
    |some c'=>rw [hcs] at this;simp only [C7,AR] at this;rw [this];exact YU (hc c' (A6 hcs))
  · rw [NY] at hci
    cases hcs:cs[i]? with
    |none=>rw [hcs] at hci;cases hci
    |some c'=>rw [hcs] at hci;simp only [C7,AR] at hci;rw [← hci];exact ih i c' v hcs hvi
 |gp h=>simpa [AV.plain] using VR.gp h
 |ep hi hr=>simpa [AV.plain] using VR.ep hi hr
 |FK=>exact .d .FK
 |PK=>simpa [AV.plain] using VR.PK
 |ms h hr hn hm=>simpa [AV.plain] using VR.ms h hr hn hm
 |mv h hr hn hm ho=>simpa [AV.plain] using VR.mv h hr hn hm ho
 |bp h k=>simpa [AV.plain] using VR.bp h k
 |fn hl hl' h h' _ _=>simpa [AV.plain] using VR.fn hl hl' h h'
 |@tup cs vs hl _ ih=>
  refine .tup (by rw [UY];exact hl) (fun i c v hci hvi=>?_)
  rw [NY] at hci
  cases hcs:cs[i]? with
  |none=>rw [hcs] at hci;cases hci
  |some c'=>rw [hcs] at hci;simp only [C7,AR] at hci;rw [← hci];exact ih i c' v hcs hvi
 |undef=>simpa [AV.plain] using VR.undef
theorem VRs.plain {g:Gh} {xs:List AV} {vs:List Value} (h:VRs g xs vs):VRs g (AV.FL xs) vs:=by
 induction h with
 |nil=>exact .nil
 |cons h _ ih=>exact .cons h.plain ih
theorem AQ.plain {f:FuncId} {args:List AV} {Q:AV→AM→Prop} (h:AQ P f (AV.FL args) σ Q):AQ P f args σ Q:=
 fun base g Pr w0 w vs hr hv=>h base g Pr w0 w vs hr hv.plain
def wZ (o:Option AV) (K:AV→AM→Prop) (σ:AM):Prop:=
 match o with
 |some v=>K v σ
 |none=>False
theorem oD (v:AV) (K:AV→AM→Prop) (σ:AM):wZ (some v) K σ=K v σ:=rfl
theorem Run.A9 {cx:Cx} {KK:AV→AM→Prop} {k:List CI} {σ2:AM} (hg:Good cx) (hσ:σ2.le σ) (h:wZ ((cD F L σ cx.rs).map AV.plain) KK σ2):Run cx KK (.code .ret::k) F L σ:=by
 cases hr:cD F L σ cx.rs with
 |none=>rw [hr] at h;exact h.elim
 |some v=>rw [hr] at h;exact Run.ret hg hr (fun _ _ h=>h.plain) hσ h
theorem Run.I8 {cx:Cx} {KK:AV→AM→Prop} {k:List CI} {σ2:AM} (hg:Good cx) (hσ:σ2.le σ) (h:wZ (cD F L σ cx.rs) KK σ2):Run cx KK (.code .ret::k) F L σ:=by
 cases hr:cD F L σ cx.rs with
 |none=>rw [hr] at h;exact h.elim
 |some v=>rw [hr] at h;exact Run.ret hg hr (fun _ _ h=>h) hσ h
theorem AO (σ:AM) (i j:Nat) (cs:List AV):(σ.AL i cs).blk j=if j=i then some cs else σ.blk j:=rfl
theorem A3 (σ:AM) (i:Nat) (cs ds:List AV):(σ.AL i cs).AL i ds=σ.AL i ds:=by
 unfold AM.AL
 congr 1
 funext j
 by_cases h:j=i<;>simp [h]
theorem Sa {σ:AM} {i:Nat} {cs:List AV} (h:σ.blk i=some cs):σ.AL i cs=σ:=by
 unfold AM.AL
 cases σ
 congr 1
 funext j
 split
 · rename_i e;subst e;exact h.symm
 · rfl
theorem GK (σ:AM) (t i:Nat):(σ.D4 t).blk i=σ.blk i:=rfl
theorem gR (σ:AM) (t i:Nat):(σ.FI t).blk i=σ.blk i:=rfl
theorem AM.le_trans {a b c:AM} (h:a.le b) (k:b.le c):a.le c:=⟨fun i cs x=>k.blk i cs (h.blk i cs x),fun t x=>k.tok t (h.tok t x),h.gt.trans k.gt,fun i x hx=>k.bt i x (h.bt i x hx)⟩
theorem FM {σ:AM} {i:Nat} {cs:List AV} (h:σ.blk i=none):σ.le (σ.AL i cs):=
 ⟨fun j ds hj=>by
   have:j≠i:=fun e=>by rw [e,h] at hj;cases hj
   rw [AO,if_neg this];exact hj,fun _ h=>h,rfl,fun _ _ h=>h⟩
structure FC (σ:AM) (e s:Nat) (rows:List (List DV)) (v:AV) (σ':AM):Prop where
 app:∃σ1,Pk σ' e s v=some (rows,σ1)∧σ.le σ1
 le:σ.le σ'
 plain:v.plain= .d (.sl rows)
 len:TO v=some (.d (.int .i64 rows.length))
 cell:v.CU=true
 Av:v.Av=true
 BQ:∀k,v.BQ k=false
 dv:v.dv=some (.sl rows)
 cells:v.cells=[v]
theorem FC.nil (σ:AM) (e s:Nat):FC σ e s [] .AW σ:=
 ⟨⟨σ,rfl,AM.le_refl σ⟩,AM.le_refl σ,rfl,rfl,rfl,rfl,fun _=>rfl,rfl,rfl⟩
theorem FC.own {σ σ1 σ':AM} {e s t:Nat} {rows:List (List DV)} (hle:σ.le σ1) (hle':σ.le σ') (ht:σ'.tok t=false):FC σ e s rows (.own t e s rows) (σ1.D4 t):=by
 have hnt:σ.tok t=false:=by
  cases h:σ.tok t with
  |false=>rfl
  |true=>rw [hle'.tok t h] at ht;cases ht
 refine ⟨⟨(σ1.D4 t).FI t,by simp [Pk,AM.D4],⟨fun i cs h=>hle.blk i cs h,fun t' h=>?_,hle.gt,hle.bt⟩⟩,⟨fun i cs h=>hle.blk i cs h,fun t' h=>?_,hle.gt,hle.bt⟩,rfl,rfl,rfl,rfl,fun _=>rfl,rfl,rfl⟩
 · have hne:t'≠t:=fun e=>by rw [e,hnt] at h;cases h
   simp [AM.FI,AM.D4,hne,hle.tok t' h]
 · have hne:t'≠t:=fun e=>by rw [e,hnt] at h;cases h
   simp [AM.D4,hne,hle.tok t' h]
theorem Oj.own {σ0:AM} {d:Option Nat} {e size bytes:Nat} {s x:AV} {rows srows:List (List DV)} (ho:FC σ0 e size rows s σ) (h2:x.rows=some srows)
 (h3:∀r∈srows,r.length=size) (h4:rows.length+srows.length≤1000000000) (hb:bytes≤10000)
 (h:∀v σ',FC σ0 e size (rows++srows) v σ'→(∀i,σ'.blk i=σ.blk i)→K (Ap d v F) L σ'):Oj e size bytes s x d K F L σ:=by
 obtain ⟨σ1,ha,hl⟩:=ho.app
 refine Oj.mk ha h2 h3 (by simp only [maxLen];omega) ?_ (fun t ht=>h _ _ (FC.own hl ho.le ht) (fun i=>?_))
 · calc (rows.length+srows.length) * bytes≤1000000000 * 10000:=Oh h4 hb
    _≤140737488355328:=by decide
 · rw [GK]
   unfold Pk at ha
   split at ha
   · cases ha;rfl
   · split at ha
     · cases ha;rfl
     · cases ha
   · cases ha
variable {cx:Cx} {KK:AV→AM→Prop} {k:List CI}
theorem Run.facts {p:Prop} (hp:∀base g lam Pr a w0 w,BT base g lam Pr cx.N F L σ a w0 w→p) (h:p→Run cx KK k F L σ):Run cx KK k F L σ:=
 fun items base g lam Pr a w0 w b cs hi hf hb hk=>h (hp base g lam Pr a w0 w hf) items base g lam Pr a w0 w b cs hi hf hb hk
def AV.Dz:AV→Prop
 | .d (.sl rows)=>rows.length≤9223372036854775807
 | .d (.str s)=>s.length≤9223372036854775807
 | .d (.int k n)=>k.min≤n∧n≤k.max
 | .own _ _ _ rows=>rows.length≤9223372036854775807
 | .clip rows=>rows.length≤9223372036854775807
 |_=>True
theorem VR.Dz {g:Gh} {x:AV} {v:Value} (h:VR g x v):x.Dz:=by
 cases h with
 |d h=>
  cases h with
  |int h=>exact h
  |bool=>trivial
  |str h=>exact h
  |nil=>simp [AV.Dz]
  |sl hc hm _ _ _=>exact BC hc hm
  |ptr=>trivial
  |FK=>trivial
 |own h _ _=>obtain ⟨_,_,_,h2⟩:=h.Ki;exact h2
 |clip h=>obtain ⟨_,_,_,h2⟩:=h.Ki;exact h2
 |_=>trivial
theorem SV.Dz {g:Gh} {lam:Nat→Option Nat} {x:AV} {v:Value} (h:SV g lam x v):x.Dz:=by
 cases x<;>first|exact VR.Dz h|trivial
theorem Run.slot (s:Nat) (h:(F s).Dz→Run cx KK k F L σ):Run cx KK k F L σ:=
 Run.facts (fun _ _ _ _ _ _ _ hf=>(hf.tm s).Dz) h
theorem Run.cell (j o:Nat) {cs:List AV} {c:AV} (hL:L j=some cs) (hc:cs[o]?=some c) (h:c.Dz→Run cx KK k F L σ):Run cx KK k F L σ:=
 Run.facts (fun _ _ _ _ _ _ _ hf=>by
  obtain ⟨_,b,vs,ty,_,_,_,hr⟩:=hf.loc j cs hL
  obtain ⟨v,_,hv⟩:=hr.at o c hc
  exact hv.Dz) h
end Go.Ab
