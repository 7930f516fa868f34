/- Compact code, its runs at the abstract level, and contracts out of runs. Equations that run compact code at the abstract level. Conditions: none. -/
import Derived.Scope
import Derived.Test.YtifplkldbbcldaaGreatDoorXAb10d
set_option linter.unusedSimpArgs false
set_option linter.unusedVariables false
set_option maxRecDepth 4000
set_option maxHeartbeats 8000000
open List renaming range→If,all_cons→Br,getD_eq_getElem?_getD→UY,getElem?_eq_some_iff→A9,mem_cons→CN,all_nil→LX,replicate→Aj,getElem_of_mem→Cb,getElem?_eq_getElem→Aq,mem_of_getElem?→Ad
open Option.some renaming injEq→AQ
open Prod.mk renaming injEq→B6
open Option renaming getD_some→Qf,map_eq_some_iff→AK,bind_eq_some_iff→AD,bind_eq_bind→AS,map_some→C3
open Go renaming undef→Cd
open Bool renaming and_eq_true→AN,false_eq_true→AU
open Nat renaming le_refl→A7,mul_le_mul→O0,zero_le→CQ,le_trans→BD
open Array renaming replicate→Ec,getD_eq_getD_getElem?→Cc
namespace Go.Ab
open Go.RowKit
inductive C where
 |skip
 |reg (ops:List Q) (live:List Nat)
 |SO (t:QT) (live:List Nat)
 |seq (x y:C)
 |cond (x:X) (t e:C)
 |block (id:Nat) (c:C)
 |loop (c:C)
 |exit (id:Nat)
 |ret
 |scope (c:C)
 |bad
inductive CI where
 |code (c:C)
 |blk (id:Nat)
 |scp
 |again (c:C)
def iH (P:Program) (N:Nat) (esc:List Nat) (pf:List FuncId) (live:List Nat) (pt:PT) (ops:Array Oper):Option C:=
 match pt with
 | .done=>(kX P N esc pf (If ops.size) ops).map fun q=>.reg q live
 |pt=>(Xo P N esc pf pt ops).map fun t=>match lin t with
  |some q=>.reg q live
  |none=>.SO t live
def Gv (P:Program) (N:Nat) (esc:List Nat) (pf:List FuncId):Code→List (List Nat×PT)→Option (C×List (List Nat×PT))
 | .skip,ct=>some (.skip,ct)
 | .region _ ops false,(live,_)::ct=>some (((Mo P N esc ops (If ops.size)).map fun q=>C.reg q live).getD .bad,ct)
 | .region _ ops true,(live,pt)::ct=>some ((iH P N esc pf live pt ops).getD .bad,ct)
 | .seq x y,ct=>(Gv P N esc pf x ct).bind fun r=>(Gv P N esc pf y r.2).map fun r'=>(.seq r.1 r'.1,r'.2)
 | .cond c t e,ct=>(xo c).bind fun c'=>(Gv P N esc pf t ct).bind fun r=>(Gv P N esc pf e r.2).map fun r'=>(.cond c' r.1 r'.1,r'.2)
 | .block id c,ct=>(Gv P N esc pf c ct).map fun r=>(.block id r.1,r.2)
 | .loop c,ct=>(Gv P N esc pf c ct).map fun r=>(.loop r.1,r.2)
 | .exit id,ct=>some (.exit id,ct)
 | .ret,ct=>some (.ret,ct)
 | .scope c,ct=>(Gv P N esc pf c ct).map fun r=>(.scope r.1,r.2)
 | .label _,ct=>some (.skip,ct)
 |_,_=>none
inductive RV where
 |t (n:Nat)
 |c (n:Nat) (k:Option Nat)
def WL (P:Program):List ResultVar→Option (List RV)
 |[]=>some []
 | .tmp n::l=>do some (.t n::(← WL P l))
 | .cell n t::l=>do
  let k ← ldN P t
  some (.c n k::(← WL P l))
def rvA (F:Fm) (L:Lm) (σ:AM):RV→Option AV
 | .t n=>some (F n)
 | .c n k=>ldA L σ (F n) k
def j6 (F:Fm) (L:Lm) (σ:AM):List RV→Option (List AV)
 |[]=>some []
 |r::l=>do some ((← rvA F L σ r)::(← j6 F L σ l))
def cW (F:Fm) (L:Lm) (σ:AM) (rs:List RV):Option AV:=
 (j6 F L σ rs).bind fun vs=>if vs.all AV.Au then (match vs with|[v]=>some v|vs=>some (.tup vs)) else none
def Vb (ks:List Nat) (F:Fm):Fm:=fun s=>if s∈ks then F s else .undef
def SD (ks:List Nat) (L:Lm):Lm:=fun s=>if s∈ks then L s else none
variable {P:Program} {base N:Nat} {g g':Gh} {Pr:Nat→Prop} {σ σ':AM} {w0 w w':World} {lam:Nat→Option Nat} {F F':Fm} {L L':Lm} {a:Act}
theorem BY.kL (h:BY base g lam Pr N F L σ a w0 w) (hF:∀s,F' s=F s∨F' s= .undef) (hL:∀k cs,L' k=some cs→L k=some cs) (hσ:σ'.le σ):BY base g lam Pr N F' L' σ' a w0 w:=by
 refine ⟨fun s=>?_,h.sz,h.df,fun k cs hk=>h.loc k cs (hL k cs hk),h.inj,h.npr,h.rel.less hσ⟩
 rcases hF s with e|e
 · rw [e];exact h.tm s
 · rw [e];exact VR.undef
theorem BY.kept (h:BY base g lam Pr N F L σ a w0 w) (ks:List Nat):BY base g lam Pr N (Vb ks F) (SD ks L) σ a w0 w:=
 h.kL (fun s=>by simp only [Vb];split<;>simp) (fun k cs hk=>by simp only [SD] at hk;split at hk<;>simp_all) (AM.le_refl σ)
structure Cx where
 P:Program
 f:FuncId
 fn:Func
 N:Nat
 esc:List Nat
 pf:List FuncId
 rs:List RV
def RC (cx:Cx):C→Code→Prop
 | .skip,k=>k= .skip∨∃l,k= .label l
 | .scope c,k=>∃p,k= .scope p∧RC cx c p
 | .reg ops _,k=>∃id arr,(k= .region id arr false∧Mo cx.P cx.N cx.esc arr (If arr.size)=some ops)∨(k= .region id arr true∧∃order,kX cx.P cx.N cx.esc cx.pf order arr=some ops)∨(k= .region id arr true∧∃pt t,Xo cx.P cx.N cx.esc cx.pf pt arr=some t∧lin t=some ops)
 | .SO t _,k=>∃id arr pt,k= .region id arr true∧Xo cx.P cx.N cx.esc cx.pf pt arr=some t
 | .seq x y,k=>∃p q,k= .seq p q∧RC cx x p∧RC cx y q
 | .cond x t e,k=>∃c p q,k= .cond c p q∧xo c=some x∧RC cx t p∧RC cx e q
 | .block id c,k=>∃p,k= .block id p∧RC cx c p
 | .loop c,k=>∃p,k= .loop p∧RC cx c p
 | .exit id,k=>k= .exit id
 | .ret,k=>k= .ret
 | .bad,_=>True
theorem AY (cx:Cx):∀(k:Code) (ct:List (List Nat×PT)) (c:C) (ct':List (List Nat×PT)),Gv cx.P cx.N cx.esc cx.pf k ct=some (c,ct')→RC cx c k
 | .skip,ct,c,ct',h=>by simp only [Gv,AQ,B6] at h;rw [← h.1];exact .inl rfl
 | .region id ops dr,ct,c,ct',h=>by
  cases ct with
  |nil=>cases dr<;>simp only [Gv] at h<;>cases h
  |cons lo ct=>
   obtain ⟨live,order⟩:=lo
   cases dr
   · simp only [Gv,AQ,B6] at h
     obtain ⟨rfl,_⟩:=h
     cases hq:Mo cx.P cx.N cx.esc ops (If ops.size) with
     |none=>exact trivial
     |some qs=>exact ⟨id,ops,.inl ⟨rfl,hq⟩⟩
   · simp only [Gv,AQ,B6] at h
     obtain ⟨rfl,_⟩:=h
     cases hq:iH cx.P cx.N cx.esc cx.pf live order ops with
     |none=>exact trivial
     |some c'=>
     simp only [Qf]
     unfold iH at hq
     split at hq
     · simp only [AK] at hq
       obtain ⟨qs,hq',rfl⟩:=hq
       exact ⟨id,ops,.inr (.inl ⟨rfl,_,hq'⟩)⟩
     · simp only [AK] at hq
       obtain ⟨t,ht,rfl⟩:=hq
       cases hl:lin t with
       |some q=>exact ⟨id,ops,.inr (.inr ⟨rfl,_,t,ht,hl⟩)⟩
       |none=>exact ⟨id,ops,_,rfl,ht⟩
 | .seq x y,ct,c,ct',h=>by
  simp only [Gv,AD,AK,B6] at h
  obtain ⟨⟨x',c1⟩,hx,⟨y',c2⟩,hy,rfl,_⟩:=h
  exact ⟨x,y,rfl,AY cx x _ _ _ hx,AY cx y _ _ _ hy⟩
 | .cond c t e,ct,c2,ct',h=>by
  simp only [Gv,AD,AK,B6] at h
  obtain ⟨x,hx,⟨t',c1⟩,ht,⟨e',c3⟩,he,rfl,_⟩:=h
  exact ⟨c,t,e,rfl,hx,AY cx t _ _ _ ht,AY cx e _ _ _ he⟩
 | .block id p,ct,c,ct',h=>by
  simp only [Gv,AK,B6] at h
  obtain ⟨⟨c',c1⟩,hc,rfl,_⟩:=h
  exact ⟨p,rfl,AY cx p _ _ _ hc⟩
 | .loop p,ct,c,ct',h=>by
  simp only [Gv,AK,B6] at h
  obtain ⟨⟨c',c1⟩,hc,rfl,_⟩:=h
  exact ⟨p,rfl,AY cx p _ _ _ hc⟩
 | .exit id,ct,c,ct',h=>by simp only [Gv,AQ,B6] at h;rw [← h.1];rfl
 | .ret,ct,c,ct',h=>by simp only [Gv,AQ,B6] at h;rw [← h.1];rfl
 | .rangeFunc ..,ct,c,ct',h=>by simp only [Gv] at h;cases h
 | .scope p,ct,c,ct',h=>by
  simp only [Gv,AK,B6] at h
  obtain ⟨⟨c',c1⟩,hc,rfl,_⟩:=h
  exact ⟨p,rfl,AY cx p _ _ _ hc⟩
 | .label l,ct,c,ct',h=>by simp only [Gv,AQ,B6] at h;rw [← h.1];exact .inr ⟨l,rfl⟩
 | .goto _,ct,c,ct',h=>by simp only [Gv] at h;cases h
 | .refuse _,ct,c,ct',h=>by simp only [Gv] at h;cases h
def RI (cx:Cx):CI→Item→Prop
 | .code c,y=>∃k,y= .code k∧RC cx c k
 | .blk id,y=>y= .inBlock id
 | .scp,y=>∃k,y= .inScope k
 | .again c,y=>∃k,y= .inLoop k∧RC cx c k
inductive RIs (cx:Cx):List CI→List Item→Prop
 |nil:RIs cx [] []
 |cons {x:CI} {y:Item} {xs:List CI} {ys:List Item} (h:RI cx x y) (hs:RIs cx xs ys):RIs cx (x::xs) (y::ys)
def Good (cx:Cx):Prop:=cx.P.funcs[cx.f]?=some cx.fn∧WL cx.P cx.fn.results.toList=some cx.rs
def Run (cx:Cx) (K:AV→AM→Prop) (todo:List CI) (F:Fm) (L:Lm) (σ:AM):Prop:=
 ∀(items:List Item) (base:Nat) (g:Gh) (lam:Nat→Option Nat) (Pr:Nat→Prop) (a:Act) (w0 w:World) (b:Frame) (cs:List Frame),
  RIs cx todo items→BY base g lam Pr cx.N F L σ a w0 w→b.fn=cx.f→b.kind= .normal→
  ∃v w' fr,Steps cx.P (lone (b.at a items) cs w) (lone fr cs w')∧fr.fn=cx.f∧fr.leaving cx.P w' (.returned v)∧
   ∃av g' σ',VR g' av v∧Rel base g' Pr σ' w0 w'∧g.le g'∧KP Pr w w'∧K av σ'
variable {cx:Cx} {K:AV→AM→Prop} {k:List CI}
theorem Run.kL (hF:∀s,F' s=F s∨F' s= .undef) (hL:∀k cs,L' k=some cs→L k=some cs) (hσ:σ'.le σ) (h:Run cx K k F' L' σ'):Run cx K k F L σ:=
 fun items base g lam Pr a w0 w b cs hi hf hb hk=>h items base g lam Pr a w0 w b cs hi (hf.kL hF hL hσ) hb hk
theorem Run.MX {k':List CI}
 (hs:∀items,RIs cx k items→∃items',RIs cx k' items'∧∀(b:Frame) (a:Act) (cs:List Frame) (w:World),step cx.P (lone (b.at a items) cs w)= .next (lone (b.at a items') cs w))
 (h:Run cx K k' F L σ):Run cx K k F L σ:=by
 intro items base g lam Pr a w0 w b cs hi hf hb hk
 obtain ⟨items',hi',hst⟩:=hs items hi
 obtain ⟨v,w',fr,hss,rest⟩:=h items' base g lam Pr a w0 w b cs hi' hf hb hk
 exact ⟨v,w',fr,.head (hst b a cs w) hss,rest⟩
theorem RIs.code {c:C} {items:List Item} (h:RIs cx (.code c::k) items):∃p ys,items= .code p::ys∧RC cx c p∧RIs cx k ys:=by
 cases h with
 |cons hy hys=>obtain ⟨p,rfl,hp⟩:=hy;exact ⟨p,_,rfl,hp,hys⟩
theorem RIs.MW {c:C} {p:Code} {ys:List Item} (hc:RC cx c p) (h:RIs cx k ys):RIs cx (.code c::k) (.code p::ys):= .cons ⟨p,rfl,hc⟩ h
theorem Run.skip (h:Run cx K k F L σ):Run cx K (.code .skip::k) F L σ:=
 h.MX fun items hi=>by
  obtain ⟨p,ys,rfl,hp,hys⟩:=hi.code
  rcases hp with rfl|⟨l,rfl⟩
  · exact ⟨ys,hys,fun b a cs w=>step_skip⟩
  · exact ⟨ys,hys,fun b a cs w=>step_label⟩
theorem Run.scope {c:C} (h:Run cx K (.code c::.scp::k) F L σ):Run cx K (.code (.scope c)::k) F L σ:=
 h.MX fun items hi=>by
  obtain ⟨p,ys,rfl,⟨p1,rfl,h1⟩,hys⟩:=hi.code
  exact ⟨_,.MW h1 (.cons ⟨p1,rfl⟩ hys),fun b a cs w=>step_scope⟩
theorem Run.scp (h:Run cx K k F L σ):Run cx K (.scp::k) F L σ:=
 h.MX fun items hi=>by
  cases hi with
  |cons hy hys=>obtain ⟨p,rfl⟩:=hy;exact ⟨_,hys,fun b a cs w=>step_inScope⟩
theorem Run.seq {x y:C} (h:Run cx K (.code x::.code y::k) F L σ):Run cx K (.code (.seq x y)::k) F L σ:=
 h.MX fun items hi=>by
  obtain ⟨p,ys,rfl,⟨p1,p2,rfl,h1,h2⟩,hys⟩:=hi.code
  exact ⟨_,.MW h1 (.MW h2 hys),fun b a cs w=>step_seq⟩
theorem Run.block {id:Nat} {c:C} (h:Run cx K (.code c::.blk id::k) F L σ):Run cx K (.code (.block id c)::k) F L σ:=
 h.MX fun items hi=>by
  obtain ⟨p,ys,rfl,⟨p1,rfl,h1⟩,hys⟩:=hi.code
  exact ⟨_,.MW h1 (.cons rfl hys),fun b a cs w=>step_block⟩
theorem Run.blk {id:Nat} (h:Run cx K k F L σ):Run cx K (.blk id::k) F L σ:=
 h.MX fun items hi=>by
  cases hi with
  |cons hy hys=>cases hy;exact ⟨_,hys,fun b a cs w=>step_inBlock⟩
theorem Run.loop {c:C} (h:Run cx K (.code c::.again c::k) F L σ):Run cx K (.code (.loop c)::k) F L σ:=
 h.MX fun items hi=>by
  obtain ⟨p,ys,rfl,⟨p1,rfl,h1⟩,hys⟩:=hi.code
  exact ⟨_,.MW h1 (.cons ⟨p1,rfl,h1⟩ hys),fun b a cs w=>step_loop⟩
theorem Run.again {c:C} (h:Run cx K (.code c::.again c::k) F L σ):Run cx K (.again c::k) F L σ:=
 h.MX fun items hi=>by
  cases hi with
  |cons hy hys=>obtain ⟨p1,rfl,h1⟩:=hy;exact ⟨_,.MW h1 (.cons ⟨p1,rfl,h1⟩ hys),fun b a cs w=>step_inLoop⟩
def Ul (id:Nat):List CI→Option (List CI)
 | .blk id'::k=>if id'=id then some k else Ul id k
 |_::k=>Ul id k
 |[]=>none
theorem Ks {id:Nat}:∀(k:List CI) (items:List Item) (k':List CI),RIs cx k items→Ul id k=some k'→∃items',exitTo id items=some items'∧RIs cx k' items'
 |[],_,_,_,h=>by cases h
 |x::k,items,k',hi,h=>by
  cases hi with
  |@cons _ y _ ys hy hys=>
   cases x with
   |code c=>
    obtain ⟨p,rfl,_⟩:=hy
    obtain ⟨i',h1,h2⟩:=Ks k ys k' hys (by simpa [Ul] using h)
    exact ⟨i',by simpa [exitTo] using h1,h2⟩
   |again c=>
    obtain ⟨p,rfl,_⟩:=hy
    obtain ⟨i',h1,h2⟩:=Ks k ys k' hys (by simpa [Ul] using h)
    exact ⟨i',by simpa [exitTo] using h1,h2⟩
   |scp=>
    obtain ⟨p,rfl⟩:=hy
    obtain ⟨i',h1,h2⟩:=Ks k ys k' hys (by simpa [Ul] using h)
    exact ⟨i',by simpa [exitTo] using h1,h2⟩
   |blk id'=>
    cases hy
    simp only [Ul] at h
    split at h
    · rename_i e
      cases h
      exact ⟨ys,by simp [exitTo,e],hys⟩
    · rename_i e
      obtain ⟨i',h1,h2⟩:=Ks k ys k' hys h
      exact ⟨i',by simpa [exitTo,e] using h1,h2⟩
theorem Run.exit {id:Nat} {k':List CI} (he:Ul id k=some k') (h:Run cx K k' F L σ):Run cx K (.code (.exit id)::k) F L σ:=
 h.MX fun items hi=>by
  obtain ⟨p,ys,rfl,hp,hys⟩:=hi.code
  cases hp
  obtain ⟨i',h1,h2⟩:=Ks k ys k' hys he
  exact ⟨i',h2,fun b a cs w=>step_exit h1⟩
theorem Run.cond {x:X} {t e:C} {b:Bool} (hx:xv F x= .d (.bool b)) (ht:b=true→Run cx K (.code t::k) F L σ) (he:b=false→Run cx K (.code e::k) F L σ):
 Run cx K (.code (.cond x t e)::k) F L σ:=by
 intro items base g lam Pr a w0 w fb cs hi hf hb hk
 obtain ⟨p,ys,rfl,⟨c,p1,p2,rfl,hc,h1,h2⟩,hys⟩:=hi.code
 have hv:=Af hc hf
 rw [hx] at hv
 have hev:a.eval c= .bool b:=by generalize a.eval c=vc at hv;cases hv with|d hh=>cases hh;rfl
 cases b with
 |true=>
  obtain ⟨v,w',fr,hs,rest⟩:=ht rfl _ base g lam Pr a w0 w fb cs (.MW h1 hys) hf hb hk
  exact ⟨v,w',fr,.head (step_cond hev) hs,rest⟩
 |false=>
  obtain ⟨v,w',fr,hs,rest⟩:=he rfl _ base g lam Pr a w0 w fb cs (.MW h2 hys) hf hb hk
  exact ⟨v,w',fr,.head (step_cond hev) hs,rest⟩
def mH (cx:Cx) (K:AV→AM→Prop) (k:List CI) (live:List Nat):C1:=fun F L σ=>Run cx K k (Vb live F) (SD live L) σ
theorem Run.reg {ops:List Q} {live:List Nat} (hm:cx.P.follows .mixedOrders=true) (h:BL cx.P (mH cx K k live) ops F L σ):Run cx K (.code (.reg ops live)::k) F L σ:=by
 intro items base g lam Pr a w0 w b cs hi hf hb hk
 obtain ⟨p,ys,rfl,⟨id,arr,hp⟩,hys⟩:=hi.code
 have hw:p.wp cx.P (fun e a' w'=>e= .normal∧Ev base Pr cx.N w0 g w (mH cx K k live) a' w') a w:=by
  rcases hp with ⟨rfl,hc⟩|⟨rfl,order,hc⟩|⟨rfl,pt,t,hc,hl⟩
  · exact wp_region (ZL cx.P arr cx.N cx.esc (mH cx K k live) _ _ base g lam Pr F L σ a w0 w hc h hf (fun _ _ h=>⟨rfl,h⟩))
  · exact iN hm hc h hf
  · exact WM hm hc (rY t ops F L σ hl h) hf
 obtain ⟨e,a',w',⟨he,g',lam',F',L',σ',hle,hkp,hf',hK⟩,harr⟩:=hw b ys cs
 subst he
 obtain ⟨v,w2,fr,hs,hfn,hl,av,g2,σ2,hvr,hrel,hle2,hkp2,hk2⟩:=hK ys base g' lam' Pr a' w0 w' b cs hys (hf'.kept live) hb hk
 exact ⟨v,w2,fr,Steps.trans harr hs,hfn,hl,av,g2,σ2,hvr,hrel,Gh.le_trans hle hle2,hkp.trans hkp2,hk2⟩
theorem Run.SO {t:QT} {live:List Nat} (hm:cx.P.follows .mixedOrders=true) (h:XT cx.P (mH cx K k live) false t F L σ):Run cx K (.code (.SO t live)::k) F L σ:=by
 intro items base g lam Pr a w0 w b cs hi hf hb hk
 obtain ⟨p,ys,rfl,⟨id,arr,pt,rfl,hc⟩,hys⟩:=hi.code
 have hw:(Code.region id arr true).wp cx.P (fun e a' w'=>e= .normal∧Ev base Pr cx.N w0 g w (mH cx K k live) a' w') a w:=WM hm hc h hf
 obtain ⟨e,a',w',⟨he,g',lam',F',L',σ',hle,hkp,hf',hK⟩,harr⟩:=hw b ys cs
 subst he
 obtain ⟨v,w2,fr,hs,hfn,hl,av,g2,σ2,hvr,hrel,hle2,hkp2,hk2⟩:=hK ys base g' lam' Pr a' w0 w' b cs hys (hf'.kept live) hb hk
 exact ⟨v,w2,fr,Steps.trans harr hs,hfn,hl,av,g2,σ2,hvr,hrel,Gh.le_trans hle hle2,hkp.trans hkp2,hk2⟩
theorem Vv (hf:BY base g lam Pr N F L σ a w0 w):∀(l:List ResultVar) (rs:List RV) (vs:List AV),WL P l=some rs→j6 F L σ rs=some vs→vs.all AV.Au=true→
 ∃xs:List Value,(l.mapM fun| .tmp t=>pure (a.tmps.getD t Cd)| .cell ad t=>do loadVar t (← asAddr (a.tmps.getD ad Cd)):Sem (List Value)).run P w= .ok xs w∧VRs g vs xs
 |[],rs,vs,hc,hv,_=>by
  simp only [WL,AQ] at hc;subst hc
  simp only [j6,AQ] at hv;subst hv
  exact ⟨[],by simp,.nil⟩
 | .tmp n::l,rs,vs,hc,hv,hn=>by
  simp only [WL,AS,AD] at hc
  obtain ⟨rs',hrs,he⟩:=hc
  cases he
  simp only [j6,AS,AD,rvA] at hv
  obtain ⟨v,hv1,vs',hvs,he⟩:=hv
  cases he;cases hv1
  simp only [Br,AN] at hn
  obtain ⟨xs,hx,hr⟩:=Vv hf l rs' vs' hrs hvs hn.2
  exact ⟨a.tmps.getD n Cd::xs,by simp only [List.mapM_cons,Sem.run_bind,Sem.run_pure,Result.andThen_ok,hx],.cons ((hf.tm n).vr hn.1) hr⟩
 | .cell n t::l,rs,vs,hc,hv,hn=>by
  simp only [WL,AS,AD] at hc
  obtain ⟨kk,hkk,rs',hrs,he⟩:=hc
  cases he
  simp only [j6,AS,AD,rvA] at hv
  obtain ⟨v,hv1,vs',hvs,he⟩:=hv
  cases he
  simp only [Br,AN] at hn
  obtain ⟨xs,hx,hr⟩:=Vv hf l rs' vs' hrs hvs hn.2
  obtain ⟨x,hld,hvr⟩:=eX (P:=P) hkk hf (hf.tm n) hv1
  have hasaddr:(do loadVar t (← asAddr (a.tmps.getD n Cd)):Sem Value).run P w= .ok x w:=by
   have hs:=hf.tm n
   generalize a.tmps.getD n Cd=pn at hs hld
   cases hp:pn<;>simp only [hp,Instr.loadAt,Instr.sureAddr] at hld<;>try (simp at hld;done)
   rename_i ad
   cases ad with
   |none=>simp at hld
   |some ad=>simpa [asAddr,Instr.sureAddr] using hld
  exact ⟨x::xs,by simp only [Sem.run_bind] at hasaddr;simp only [List.mapM_cons,Sem.run_bind,hasaddr,hx,Result.andThen_ok,Sem.run_pure],.cons hvr hr⟩
theorem aV {fn:Func} {rs:List RV} (hc:WL P fn.results.toList=some rs) (hf:BY base g lam Pr N F L σ a w0 w) {v:AV} (hv:cW F L σ rs=some v):
 ∃x,(results fn a.tmps).run P w= .ok x w∧VR g v x:=by
 simp only [cW,AD] at hv
 obtain ⟨vs,hvs,hv⟩:=hv
 split at hv
 case isFalse=>cases hv
 rename_i hn
 obtain ⟨xs,hx,hr⟩:=Vv (P:=P) hf _ rs vs hc hvs hn
 have hrun:(results fn a.tmps).run P w= .ok (if h:xs.toArray.size=1 then xs.toArray[0] else .tuple xs.toArray) w:=by
  unfold results
  rw [Array.mapM_eq_mapM_toList]
  simp only [Sem.run_bind,Sem.run_map,Sem.run_pure]
  exact congrArg (fun r:Result (List Value)=>(r.andThen fun a w'=>Result.ok a.toArray w').andThen fun (a:Array Value) w'=>Result.ok (if h:a.size=1 then a[0] else Value.tuple a) w') hx
 have hlen:=hr.length
 cases vs with
 |nil=>
  cases hv
  cases hr
  exact ⟨_,hrun,by simpa using VR.tup (g:=g) (cs:=[]) (vs:=[]) rfl (by simp)⟩
 |cons v1 vs=>
  cases vs with
  |nil=>
   cases hv
   cases hr with|cons h1 h2=>cases h2;exact ⟨_,hrun,by simpa using h1⟩
  |cons v2 vs=>
   cases hv
   refine ⟨_,hrun,?_⟩
   have hne:¬xs.toArray.size=1:=by simp at hlen ⊢;omega
   rw [dif_neg hne]
   exact .tup hr.length hr.idx
theorem Run.fin {σ2:AM} (hg:Good cx) {v v':AV} (hv:cW F L σ cx.rs=some v) (hw:∀g x,VR g v x→VR g v' x) (hσ:σ2.le σ) (hK:K v' σ2):Run cx K [] F L σ:=by
 intro items base g lam Pr a w0 w b cs hi hf hb hk
 cases hi
 obtain ⟨x,hx,hvr⟩:=aV hg.2 hf hv
 refine ⟨x,w,_,.one step_end,hb,⟨rfl,hf.df,hk,cx.fn,by show cx.P.funcs[b.fn]?=_;rw [hb];exact hg.1,hx⟩,v',g,σ2,hw g x hvr,?_,Gh.le_refl g,KP.refl Pr w,hK⟩
 exact (hf.rel.less hσ).grow (A7 _) (fun _ _ _=>rfl) (Below.refl _ _) (fun b hp=>⟨(hf.rel.pr b (.inl hp)).1,.inl (.inl hp)⟩)
theorem Run.ret {σ2:AM} (hg:Good cx) {v v':AV} (hv:cW F L σ cx.rs=some v) (hw:∀g x,VR g v x→VR g v' x) (hσ:σ2.le σ) (hK:K v' σ2):Run cx K (.code .ret::k) F L σ:=by
 intro items base g lam Pr a w0 w b cs hi hf hb hk
 obtain ⟨p,ys,rfl,hp,hys⟩:=hi.code
 cases hp
 obtain ⟨x,hx,hvr⟩:=aV hg.2 hf hv
 refine ⟨x,w,_,.one step_ret,hb,⟨rfl,hf.df,hk,cx.fn,by show cx.P.funcs[b.fn]?=_;rw [hb];exact hg.1,hx⟩,v',g,σ2,hw g x hvr,?_,Gh.le_refl g,KP.refl Pr w,hK⟩
 exact (hf.rel.less hσ).grow (A7 _) (fun _ _ _=>rfl) (Below.refl _ _) (fun b hp=>⟨(hf.rel.pr b (.inl hp)).1,.inl (.inl hp)⟩)
def An (args:List AV):Fm:=fun s=>args.getD s .undef
theorem AW {args:List AV} {c:C} {code:Code} (hg:Good cx) (hb:cx.fn.body=some code) (hN:cx.fn.ntmps=cx.N) (hl:args.length≤cx.N) (hc:RC cx c code)
 (h:Run cx K [.code c] (An args) (fun _=>none) σ):AR cx.P cx.f args σ K:=by
 intro base g Pr w0 w vs hrel hvs cs
 let b:Frame:= { (default:Frame) with fn:=cx.f,kind:= .normal}
 have henter:Frame.enter cx.P cx.f vs.toArray .normal=b.at { tmps:=vs.toArray++Ec (cx.fn.ntmps - vs.toArray.size) Cd,defers:=[]} [.code code]:=by
  simp [Frame.enter,Frame.at,hg.1,hb,b]
 have hvl:=hvs.length
 have hf:BY base g (fun _=>none) Pr cx.N (An args) (fun _=>none) σ { tmps:=vs.toArray++Ec (cx.fn.ntmps - vs.toArray.size) Cd,defers:=[]} w0 w:=by
  refine ⟨fun s=>?_,by simp;omega,rfl,fun k cs hk=>(by cases hk),fun k k' b hk=>(by cases hk),fun k b hk=>(by cases hk),?_⟩
  · simp only [An,UY]
    cases hs:args[s]? with
    |none=>exact VR.undef
    |some av=>
     obtain ⟨v,hv,hr⟩:=hvs.at s av hs
     have hlt:=(A9.1 hv).1
     have:(vs.toArray++Ec (cx.fn.ntmps - vs.toArray.size) Cd).getD s Cd=v:=by
      simp only [Cc]
      rw [Array.getElem?_append_left (by simpa using hlt)]
      simp [hv]
     show SV g _ av ((vs.toArray++Ec (cx.fn.ntmps - vs.toArray.size) Cd).getD s Cd)
     rw [this];exact SV.Ee hr
  · exact hrel.grow (A7 _) (fun _ _ _=>rfl) (Below.refl _ _) (fun b hp=>by
     rcases hp with hp|⟨k,hk⟩
     · exact ⟨(hrel.pr b hp).1,.inl hp⟩
     · cases hk)
 obtain ⟨v,w',fr,hs,hfn,hlv,av,g',σ',h1,h2,h3,h4,h5⟩:=h [.code code] base g _ Pr _ w0 w b cs (.MW hc .nil) hf rfl rfl
 rw [← henter] at hs
 exact ⟨.returned v,w',fr,⟨v,av,g',σ',rfl,h1,h2,h3,h4,h5⟩,hs,hfn,hlv⟩
end Go.Ab
namespace Go.Ab
open Go.RowKit
variable {P:Program} {K:C1} {F:Fm} {L:Lm} {σ:AM} {r:List Q}
def E:Lm:=fun _=>none
def Tj (k:Nat) (o:Option (List AV)) (L:Lm):Lm:=fun s=>if s=k then o else L s
theorem II (d:Nat) (v:AV) (F:Fm) (s:Nat):put d v F s=if s=d then v else F s:=rfl
theorem sV (d:Nat) (cs:List AV) (L:Lm) (s:Nat):BW d cs L s=if s=d then some cs else L s:=rfl
theorem AA7 (s:Nat):E s=none:=rfl
theorem ABC (s:Nat):U s= .undef:=rfl
theorem rF (F:Fm):Vb [] F=U:=rfl
theorem n8 (k:Nat) (ks:List Nat) (F:Fm):Vb (k::ks) F=put k (F k) (Vb ks F):=by
 funext s
 simp only [Vb,put,CN]
 by_cases h:s=k
 · subst h;simp
 · simp [h]
theorem n6 (L:Lm):SD [] L=E:=rfl
theorem jF (k:Nat) (ks:List Nat) (L:Lm):SD (k::ks) L=Tj k (L k) (SD ks L):=by
 funext s
 simp only [SD,Tj,CN]
 by_cases h:s=k
 · subst h;simp
 · simp [h]
theorem j2 (k:Nat) (cs:List AV) (L:Lm):Tj k (some cs) L=BW k cs L:=rfl
theorem wO (k:Nat):Tj k none E=E:=by funext s;simp [Tj,E]
theorem j1 (k j:Nat) (cs:List AV) (L:Lm):Tj k none (BW j cs L)=if j=k then Tj k none L else BW j cs (Tj k none L):=by
 funext s
 by_cases h:j=k
 · subst h
   simp only [if_true,Tj,BW]
   by_cases h2:s=j<;>simp [h2]
 · simp only [h,if_false,Tj,BW]
   by_cases h2:s=k
   · have h3:s≠j:=by omega
     rw [if_pos h2,if_neg h3,if_pos h2]
   · rw [if_neg h2]
     by_cases h3:s=j
     · rw [if_pos h3,if_pos h3]
     · rw [if_neg h3,if_neg h3,if_neg h2]
theorem oX (k:Nat) (cs ds:List AV) (L:Lm):BW k cs (BW k ds L)=BW k cs L:=by
 funext s;simp only [BW];split<;>rfl
theorem ACO (F:Fm) (n:Nat):xv F (.t n)=F n:=rfl
theorem ACN (F:Fm) (v:AV):xv F (.c v)=v:=rfl
theorem BC (a:AV):An [a]=put 0 a U:=by
 funext s;simp only [An,put,U];cases s<;>simp
theorem BF (a b:AV):An [a,b]=put 0 a (put 1 b U):=by
 funext s;simp only [An,put,U]
 match s with|0=>rfl|1=>rfl|n+2=>simp
theorem Ha (a b c:AV):An [a,b,c]=put 0 a (put 1 b (put 2 c U)):=by
 funext s;simp only [An,put,U]
 match s with|0=>rfl|1=>rfl|2=>rfl|n+3=>simp
theorem X6 (a b c d:AV):An [a,b,c,d]=put 0 a (put 1 b (put 2 c (put 3 d U))):=by
 funext s;simp only [An,put,U]
 match s with|0=>rfl|1=>rfl|2=>rfl|3=>rfl|n+4=>simp
theorem wN (k:Nat):DH k U=U:=by funext s;simp [DH,U,AV.BS]
theorem oW (k d:Nat) (v:AV) (F:Fm):DH k (put d v F)=put d (if v.BS k then .undef else v) (DH k F):=by
 funext s
 simp only [DH,put]
 by_cases h:s=d<;>simp [h]
theorem zV (k:Nat) (x:DV):(AV.d x).BS k=false:=rfl
theorem oI (k:Nat):AV.AX.BS k=false:=rfl
theorem r2 (k t e s:Nat) (r:List (List DV)):(AV.own t e s r).BS k=false:=rfl
theorem oF (k:Nat) (r:List (List DV)):(AV.clip r).BS k=false:=rfl
theorem r1 (k:Nat) (r:List AV):(AV.agg r).BS k=false:=rfl
theorem vY (k j o:Nat):(AV.lp j o).BS k=(j==k):=rfl
theorem vX (k j o:Nat):(AV.gp j o).BS k=false:=rfl
theorem vV (k o:Nat) (r:List DV):(AV.ep r o).BS k=false:=rfl
theorem oH (k:Nat):AV.FD.BS k=false:=rfl
theorem vZ (k i n s e:Nat):(AV.ms i n s e).BS k=false:=rfl
theorem v7 (k:Nat) (i o n s e:Nat):(AV.mv i o n s e).BS k=false:=rfl
theorem vU (k:Nat) (t e:Nat) (s:List UInt8):(AV.bp t e s).BS k=false:=rfl
theorem oG (k:Nat):AV.Oq.BS k=false:=rfl
theorem vW (k:Nat) (f:FuncId) (x y:List AV):(AV.fn f x y).BS k=false:=rfl
theorem r3 (k:Nat) (x:List AV):(AV.tup x).BS k=false:=rfl
theorem jK (k:Nat):AV.undef.BS k=false:=rfl
theorem uK (x:DV):AV.cells (AV.d x)=[(AV.d x)]:=rfl
theorem iE:AV.cells AV.AX=[AV.AX]:=rfl
theorem mZ (t e s:Nat) (r:List (List DV)):AV.cells (AV.own t e s r)=[(AV.own t e s r)]:=rfl
theorem iB (r:List (List DV)):AV.cells (AV.clip r)=[(AV.clip r)]:=rfl
theorem mY (r:List AV):AV.cells (AV.agg r)=r:=rfl
theorem qM (j o:Nat):AV.cells (AV.lp j o)=[(AV.lp j o)]:=rfl
theorem qL (j o:Nat):AV.cells (AV.gp j o)=[(AV.gp j o)]:=rfl
theorem qJ (r:List DV) (o:Nat):AV.cells (AV.ep r o)=[(AV.ep r o)]:=rfl
theorem iD:AV.cells AV.FD=[AV.FD]:=rfl
theorem qN (i n s e:Nat):AV.cells (AV.ms i n s e)=[(AV.ms i n s e)]:=rfl
theorem qO (i o n s e:Nat):AV.cells (AV.mv i o n s e)=[AV.mv i o n s e]:=rfl
theorem qI (t e:Nat) (s:List UInt8):AV.cells (AV.bp t e s)=[AV.bp t e s]:=rfl
theorem iC:AV.cells AV.Oq=[AV.Oq]:=rfl
theorem qK (f:FuncId) (x y:List AV):AV.cells (AV.fn f x y)=[(AV.fn f x y)]:=rfl
theorem nA (x:List AV):AV.cells (AV.tup x)=[(AV.tup x)]:=rfl
theorem dZ:AV.cells AV.undef=[AV.undef]:=rfl
theorem rC (x:DV):AV.CT (AV.d x)=true:=rfl
theorem eP:AV.CT AV.AX=true:=rfl
theorem jC (t e s:Nat) (r:List (List DV)):AV.CT (AV.own t e s r)=true:=rfl
theorem eL (r:List (List DV)):AV.CT (AV.clip r)=true:=rfl
theorem jB (r:List AV):AV.CT (AV.agg r)=false:=rfl
theorem nU (j o:Nat):AV.CT (AV.lp j o)=false:=rfl
theorem nT (j o:Nat):AV.CT (AV.gp j o)=true:=rfl
theorem nR (r:List DV) (o:Nat):AV.CT (AV.ep r o)=true:=rfl
theorem eO:AV.CT AV.FD=true:=rfl
theorem nV (i n s e:Nat):AV.CT (AV.ms i n s e)=true:=rfl
theorem nW (i o n s e:Nat):AV.CT (AV.mv i o n s e)=true:=rfl
theorem nQ (t e:Nat) (s:List UInt8):AV.CT (AV.bp t e s)=true:=rfl
theorem eN:AV.CT AV.Oq=true:=rfl
theorem nS (f:FuncId) (x y:List AV):AV.CT (AV.fn f x y)=true:=rfl
theorem jD (x:List AV):AV.CT (AV.tup x)=false:=rfl
theorem bZ:AV.CT AV.undef=false:=rfl
theorem KI (x:DV):AV.Au (AV.d x)=true:=rfl
theorem oO:AV.Au AV.AX=true:=rfl
theorem r9 (t e s:Nat) (r:List (List DV)):AV.Au (AV.own t e s r)=true:=rfl
theorem oL (r:List (List DV)):AV.Au (AV.clip r)=true:=rfl
theorem Fb (r:List AV):AV.Au (AV.agg r)=true:=rfl
theorem wD (j o:Nat):AV.Au (AV.lp j o)=false:=rfl
theorem JR (j o:Nat):AV.Au (AV.gp j o)=true:=rfl
theorem wB (r:List DV) (o:Nat):AV.Au (AV.ep r o)=true:=rfl
theorem oN:AV.Au AV.FD=true:=rfl
theorem wE (i n s e:Nat):AV.Au (AV.ms i n s e)=true:=rfl
theorem wF (i o n s e:Nat):AV.Au (AV.mv i o n s e)=true:=rfl
theorem wA (t e:Nat) (s:List UInt8):AV.Au (AV.bp t e s)=true:=rfl
theorem oM:AV.Au AV.Oq=true:=rfl
theorem wC (f:FuncId) (x y:List AV):AV.Au (AV.fn f x y)=true:=rfl
theorem sA (x:List AV):AV.Au (AV.tup x)=true:=rfl
theorem jO:AV.Au AV.undef=true:=rfl
theorem ACF (x:DV):AV.dv (AV.d x)=some x:=rfl
theorem uU:AV.dv AV.AX=some (.sl []):=rfl
theorem zB (t e s:Nat) (r:List (List DV)):AV.dv (AV.own t e s r)=some (.sl r):=rfl
theorem uR (r:List (List DV)):AV.dv (AV.clip r)=some (.sl r):=rfl
theorem zA (r:List AV):AV.dv (AV.agg r)=none:=rfl
theorem ABI (j o:Nat):AV.dv (AV.lp j o)=none:=rfl
theorem ABH (j o:Nat):AV.dv (AV.gp j o)=none:=rfl
theorem ABF (r:List DV) (o:Nat):AV.dv (AV.ep r o)=none:=rfl
theorem uT:AV.dv AV.FD=some .FD:=rfl
theorem ABK (i o n s e:Nat):AV.dv (AV.mv i o n s e)=none:=rfl
theorem ABE (t e:Nat) (s:List UInt8):AV.dv (AV.bp t e s)=none:=rfl
theorem uS:AV.dv AV.Oq=none:=rfl
theorem ABJ (i n s e:Nat):AV.dv (AV.ms i n s e)=none:=rfl
theorem ABG (f:FuncId) (x y:List AV):AV.dv (AV.fn f x y)=none:=rfl
theorem zC (x:List AV):AV.dv (AV.tup x)=none:=rfl
theorem qW:AV.dv AV.undef=none:=rfl
theorem o6:AV.rows AV.AX=some []:=rfl
theorem s9 (t e s:Nat) (r:List (List DV)):AV.rows (AV.own t e s r)=some r:=rfl
theorem oZ (r:List (List DV)):AV.rows (AV.clip r)=some r:=rfl
theorem AAD (r:List (List DV)):AV.rows (AV.d (.sl r))=some r:=rfl
theorem oC:TH AV.AX=some (.d (.int .i64 0)):=rfl
theorem rQ (t e s:Nat) (r:List (List DV)):TH (AV.own t e s r)=some (.d (.int .i64 r.length)):=rfl
theorem oB (r:List (List DV)):TH (AV.clip r)=some (.d (.int .i64 r.length)):=rfl
theorem vL (i n s e:Nat):TH (AV.ms i n s e)=some (.d (.int .i64 n)):=rfl
theorem vM (i o n s e:Nat):TH (AV.mv i o n s e)=some (.d (.int .i64 n)):=rfl
theorem zP (r:List (List DV)):TH (AV.d (.sl r))=some (.d (.int .i64 r.length)):=rfl
theorem AA1:BL P K [] F L σ=K F L σ:=rfl
theorem AA6 (b:Bool) (q:Q) (t:QT):XT P K b (.one q t) F L σ=BL P (XT P K false t) [q] F L σ:=by cases b<;>rfl
theorem AA5 (b:Bool) (q:Q) (t s:QT):XT P K b (.alt q t s) F L σ=(BL P (XT P K false t) [q] F L σ∧XT P K true s F L σ):=by cases b<;>rfl
theorem xQ:XT P K false .done F L σ=K F L σ:=rfl
theorem xR:XT P K true .done F L σ=True:=rfl
theorem tY (v:AV) (d:Nat):XPv (some v) (some d) K F L σ=K (put d v F) L σ:=rfl
theorem ACA (d:Nat) (x:X):BL P K (⟨some d,.mv x,none⟩::r) F L σ=BL P K r (put d (xv F x) F) L σ:=rfl
theorem xL (d:Option Nat) (x y z:X):BL P K (⟨d,.pick x y z,none⟩::r) F L σ=XPv (fI (xv F x) (xv F y) (xv F z)) d (BL P K r) F L σ:=rfl
theorem AAU (d:Option Nat) (x:X) (o:Nat):BL P K (⟨d,.fld x o,none⟩::r) F L σ=XPv (iP (xv F x) o) d (BL P K r) F L σ:=rfl
theorem AB8 (d:Option Nat) (x:X) (n:Option Nat):BL P K (⟨d,.ld x n,none⟩::r) F L σ=XPv (ldA L σ (xv F x) n) d (BL P K r) F L σ:=rfl
theorem AB7 (d:Option Nat) (x y:X) (n:Nat):BL P K (⟨d,.ix x y n,none⟩::r) F L σ=XPv (ixA (xv F x) (xv F y) n) d (BL P K r) F L σ:=rfl
theorem xN (d:Option Nat) (x y:X):BL P K (⟨d,.OV x y,none⟩::r) F L σ=XPv (Yo (xv F x) (xv F y)) d (BL P K r) F L σ:=rfl
theorem AAW (d:Option Nat) (x:X):BL P K (⟨d,.len x,none⟩::r) F L σ=XPv (TH (xv F x)) d (BL P K r) F L σ:=rfl
theorem xO (d:Option Nat) (x:X):BL P K (⟨d,.HZ x,none⟩::r) F L σ=XPv (aW (xv F x)) d (BL P K r) F L σ:=rfl
theorem AAP (d:Option Nat) (op:BinOp) (x y:X):BL P K (⟨d,.bin op x y,none⟩::r) F L σ=XPv (mS op (xv F x) (xv F y)) d (BL P K r) F L σ:=rfl
theorem xF (d:Option Nat) (op:BinOp) (x y:X):BL P K (⟨d,.qE op x y,none⟩::r) F L σ=XPv (Zw op (xv F x) (xv F y)) d (BL P K r) F L σ:=rfl
theorem ACC (d:Option Nat) (op:UnOp) (x:X):BL P K (⟨d,.un op x,none⟩::r) F L σ=XPv (unA op (xv F x)) d (BL P K r) F L σ:=rfl
theorem xK (d:Option Nat) (k:IntKind) (x:X):BL P K (⟨d,.conv k x,none⟩::r) F L σ=XPv (aB k (xv F x)) d (BL P K r) F L σ:=rfl
theorem AAQ (d:Option Nat) (z:List AV) (ps:List (Nat×Nat×X)):BL P K (⟨d,.bld z ps,none⟩::r) F L σ=XPv ((I2 z F ps).map .agg) d (BL P K r) F L σ:=rfl
theorem AAS (d:Option Nat) (s n:Nat) (z:List AV) (ps:List (Nat×Nat×X)):BL P K (⟨d,.bsl s n z ps,none⟩::r) F L σ=XPv (((I2 z F ps).bind dvs).map fun l=>.d (.sl (chunk s n l))) d (BL P K r) F L σ:=rfl
theorem AAX (d:Option Nat) (f:FuncId) (x y:List X):BL P K (⟨d,.mkf f x y,none⟩::r) F L σ=XPv (if (xvs F x++xvs F y).all AV.Au then some (.fn f (xvs F x) (xvs F y)) else none) d (BL P K r) F L σ:=rfl
theorem AAT (d:Option Nat) (x:X) (i:Nat):BL P K (⟨d,.ext x i,none⟩::r) F L σ=XPv (nF (xv F x) i) d (BL P K r) F L σ:=rfl
theorem AA0 (d:Option Nat) (x:X):BL P K (⟨d,.nck x,none⟩::r) F L σ=XPv (r7 (xv F x)) d (BL P K r) F L σ:=rfl
theorem AB9 (d:Option Nat) (b:Bool) (x y:X):BL P K (⟨d,.mm b x y,none⟩::r) F L σ=XPv (mmA b (xv F x) (xv F y)) d (BL P K r) F L σ:=rfl
theorem AAR (d:Nat) (x:X):BL P K (⟨some d,.box x false,none⟩::r) F L σ=(Ag (xv F x).cells=true∧BL P K r (put d (.lp d 0) (DH d F)) (BW d (xv F x).cells L) σ):=rfl
theorem AB0 (d:Nat) (z:List AV):BL P K (⟨some d,.al z false,none⟩::r) F L σ=(Ag z=true∧BL P K r (put d (.lp d 0) (DH d F)) (BW d z L) σ):=rfl
theorem xG (d:Nat) (x:X):BL P K (⟨some d,.box x true,none⟩::r) F L σ=(Ag (xv F x).cells=true∧∀i,σ.blk i=none→BL P K r (put d (.gp i 0) F) L (σ.AL i (xv F x).cells)):=rfl
theorem AAN (d:Nat) (z:List AV):BL P K (⟨some d,.al z true,none⟩::r) F L σ=(Ag z=true∧∀i,σ.blk i=none→BL P K r (put d (.gp i 0) F) L (σ.AL i z)):=rfl
def yL (K:C1) (F:Fm):Option (Lm×AM)→Prop
 |some (L',σ')=>K F L' σ'
 |none=>False
theorem tZ (F:Fm) (L':Lm) (σ':AM):yL K F (some (L',σ'))=K F L' σ':=rfl
theorem ACB (x v:X) (n:Nat):BL P K (⟨none,.st x v n,none⟩::r) F L σ=(Ag (xv F v).cells=true∧(xv F v).cells.length=n∧yL (BL P K r) F (stA L σ (xv F v).cells (xv F x))):=by
 show XSt _ _ _ _ _ _ _ _=_
 unfold XSt yL
 simp only [true_and]
 cases stA L σ (xv F v).cells (xv F x)<;>rfl
theorem AB3 (d:Option Nat) (o:O) (s:Nat) (want:Bool):BL P K (⟨d,o,some (s,want)⟩::r) F L σ=XG (gdV want (F s)) (BL P K (⟨d,o,none⟩::r) F L σ) (BL P K r (Ao d (.tup []) F) L σ):=rfl
theorem AB6 (d:Option Nat) (o:O) (s:Nat) (want:Bool) (h:gdV want (F s)=some true):BL P K (⟨d,o,some (s,want)⟩::r) F L σ=BL P K (⟨d,o,none⟩::r) F L σ:=by rw [AB3,h];rfl
theorem AB4 (d:Option Nat) (o:O) (s:Nat) (want:Bool) (h:gdV want (F s)=some false):BL P K (⟨d,o,some (s,want)⟩::r) F L σ=BL P K r (Ao d (.tup []) F) L σ:=by rw [AB3,h];rfl
theorem ABL (want b:Bool):gdV want (.d (.bool b))=some (b==want):=rfl
theorem ABM (want:Bool):gdV want (.tup [])=some false:=rfl
theorem oY (d:Nat) (v:AV) (F:Fm):Ao (some d) v F=put d v F:=rfl
theorem xJ (d:Option Nat) (f:FuncId) (args:List X):BL P K (⟨d,.call f args,none⟩::r) F L σ=AG P f (xvs F args) d (BL P K r) F L σ:=rfl
theorem tX (d:Option Nat) (f:FuncId) (args:List X):BL P K (⟨d,.WW f args,none⟩::r) F L σ=X0 P f (xvs F args) d (BL P K r) F L σ:=rfl
theorem AAO (d:Option Nat) (e s b:Nat) (x y:X):BL P K (⟨d,.app e s b x y,none⟩::r) F L σ=L2 e s b (xv F x) (xv F y) d (BL P K r) F L σ:=rfl
def yF (P:Program) (x:AV) (args:List AV) (dst:Option Nat) (K:C1) (F:Fm) (L:Lm) (σ:AM):Prop:=
 ∃f first caps,x= .fn f first caps∧Ap P f=true∧AG P f (first++args++caps) dst K F L σ
theorem tW (d:Option Nat) (x:X) (args:List X):BL P K (⟨d,.ER x args,none⟩::r) F L σ=yF P (xv F x) (xvs F args) d (BL P K r) F L σ:=rfl
theorem AAZ (d:Option Nat) (e s b:Nat) (z:List AV) (x y:X):BL P K (⟨d,.msl e s b z x y,none⟩::r) F L σ=pT e s b z (xv F x) (xv F y) d (BL P K r) F L σ:=rfl
theorem xE (d:Option Nat) (e s b:Nat) (x y:X):BL P K (⟨d,.ZO e s b x y,none⟩::r) F L σ=dS e s b (xv F x) (xv F y) d (BL P K r) F L σ:=rfl
theorem AA4 (d:Option Nat) (x y:X):BL P K (⟨d,.trn x y,none⟩::r) F L σ=yM (xv F x) (xv F y) d (BL P K r) F L σ:=rfl
theorem xI (d:Option Nat) (e s n:Nat) (z:List AV) (ps:List (Nat×Nat×X)):BL P K (⟨d,.Me e s n z ps,none⟩::r) F L σ=IV e s n (I2 z F ps) d (BL P K r) F L σ:=rfl
theorem AAV (d:Option Nat) (x:X) (n:Option Nat):BL P K (⟨d,.ldl x n,none⟩::r) F L σ=XPv (cH L (xv F x) n) d (BL P K r) F L σ:=rfl
theorem AB2 (d:Option Nat) (x:X) (o:Nat) (n:Option Nat):BL P K (⟨d,.fd x o n,none⟩::r) F L σ=XPv (fdA (xv F x) o n) d (BL P K r) F L σ:=rfl
theorem AA3 (d:Option Nat) (x:X) (a b:Option X):BL P K (⟨d,.ssl x a b,none⟩::r) F L σ=XPv (S2 (xv F x) (a.map (xv F)) (b.map (xv F))) d (BL P K r) F L σ:=rfl
theorem AA2 (d:Option Nat) (x:X) (a b c:Option X) (n:Nat):BL P K (⟨d,.sls x a b c n,none⟩::r) F L σ=XPv (o8 (xv F x) (a.map (xv F)) (b.map (xv F)) (c.map (xv F)) n) d (BL P K r) F L σ:=rfl
theorem xM (d:Option Nat) (ne:Bool) (x:X):BL P K (⟨d,.jY ne x,none⟩::r) F L σ=XPv (aR ne (xv F x)) d (BL P K r) F L σ:=rfl
theorem xP (d:Option Nat) (ne:Bool) (n:Nat) (x y:X):BL P K (⟨d,.kD ne n x y,none⟩::r) F L σ=XPv (aX ne n (xv F x) (xv F y)) d (BL P K r) F L σ:=rfl
theorem AAY (d:Option Nat) (b:Bool) (x y z:X):BL P K (⟨d,.mm3 b x y z,none⟩::r) F L σ=XPv ((mmA b (xv F x) (xv F y)).bind fun v=>mmA b v (xv F z)) d (BL P K r) F L σ:=rfl
theorem xH (d:Option Nat) (x:X):BL P K (⟨d,.qF x,none⟩::r) F L σ=XPv ((dvs (xv F x).cells).map fun ds=>.d (.ptr ds)) d (BL P K r) F L σ:=rfl
theorem AB1 (d:Option Nat) (k:EK) (xs:List X):BL P K (⟨d,.ex k xs,none⟩::r) F L σ=XEx k (xvs F xs) d (BL P K r) F L σ:=rfl
theorem xC (d:Option Nat) (args:List AV):XEx .cap args d K F L σ=XPv (exP .cap args) d K F L σ:=rfl
theorem xB (d:Option Nat) (args:List AV):XEx .b2s args d K F L σ=XPv (exP .b2s args) d K F L σ:=rfl
theorem xD (d:Option Nat) (args:List AV):XEx .usd args d K F L σ=XPv (exP .usd args) d K F L σ:=rfl
theorem xA (d:Nat) (t:Nat) (z:List AV):XEx (.alt t z) [] (some d) K F L σ=(Ag z=true∧∀i,(σ.blk i=none∧σ.bt i=none)→K (put d (.gp i 0) F) L ((σ.AL i z).GX i (z.length,t))):=by
 simp only [XEx,EK.pure,AU,if_false,LX,true_and,ExR,Ao]
theorem XEx.dV {d:Nat} {t n:Nat} {v:AV} (hn:v.Au=true) (h1:Ag v.cells=true) (h2:v.cells.length=n) (h:∀i,(σ.blk i=none∧σ.bt i=none)→K (put d (.gp i 0) F) L ((σ.AL i v.cells).GX i (n,t))):XEx (.dV t n) [v] (some d) K F L σ:=by
 refine ⟨by simp [hn],?_⟩
 exact ⟨⟨h1,h2⟩,h⟩
theorem XEx.gD {d:Nat} {ne b:Bool} {v:AV} (hn:v.Au=true) (hv:jM v=some b) (h:K (put d (.d (.bool (b != ne))) F) L σ):XEx (.gD ne) [v] (some d) K F L σ:=by
 refine ⟨by simp [hn],?_⟩
 show (match jM v with|some b=>_|none=>_)
 rw [hv];exact h
theorem XEx.apps {d:Option Nat} {e:Nat} {s:AV} {x:List UInt8} {rows:List (List DV)} {σ1:AM} (hn:s.Au=true) (ha:P2 σ e 1 s=some (rows,σ1)) (hl:rows.length+x.length≤140737488355328)
 (h:∀t,σ.tok t=false→K (Ao d (.own t e 1 (rows++BE x)) F) L (σ1.D0 t)):XEx (.apps e) [s,.d (.str x)] d K F L σ:=
 ⟨by rw [Br,hn];rfl,rows,σ1,ha,hl,h⟩
theorem XEx.mN {d:Option Nat} {e size bytes:Nat} {z:List AV} {k:IntKind} {n:Nat} (h0:0 < n) (hb:bytes≤10000) (hn:n≤1000000000)
 (h:∀j,σ.blk j=none→K (Ao d (.ms j n size e) F) L (σ.AL j (Aj n z).flatten)):XEx (.mN e size bytes z) [.AX,.d (.int k n)] d K F L σ:=by
 refine ⟨rfl,by omega,?_,by omega,?_⟩
 · have h1:n * bytes≤1000000000 * 10000:=O0 hn hb
   have h2:((n * bytes:Nat):Int)≤((1000000000 * 10000:Nat):Int):=Int.ofNat_le.2 h1
   rw [Int.natCast_mul] at h2
   exact Int.le_trans h2 (by decide)
 · simpa using h
theorem XEx.gL {d:Option Nat} {e t:Nat} {s:List UInt8} {n:Int} (hl:n=s.length) (h0:s≠[]) (ht:σ.tok t=true) (h:K (Ao d (.d (.str s)) F) L (σ.FB t)):XEx (.gL e) [.bp t e s,.d (.int .i64 n)] d K F L σ:=
 ⟨rfl,⟨rfl,hl⟩,h0,ht,h⟩
theorem dS.mk {d:Option Nat} {e size bytes n:Nat} {s x:AV} {cs:List AV} {srows:List (List DV)} {σ1:AM} (h1:TU σ e size s=some (n,cs,σ1)) (h2:x.rows=some srows)
 (h3:∀r∈srows,r.length=size) (h4:srows≠[]) (h5:n+srows.length≤1000000000) (hb:bytes≤10000)
 (h:∀j,σ.blk j=none→K (Ao d (.ms j (n+srows.length) size e) F) L (σ1.AL j (cs++HL srows))):dS e size bytes s x d K F L σ:=
 ⟨n,cs,σ1,srows,h1,h2,h3,fun e=>absurd e h4,by simp only [maxLen];omega,by
   calc (n+srows.length) * bytes≤1000000000 * 10000:=O0 h5 hb
    _≤140737488355328:=by decide,fun _=>h⟩
theorem IV.mk {d:Option Nat} {e s n:Nat} {cs:List AV} (h:∀j,σ.blk j=none→K (Ao d (.ms j n s e) F) L (σ.AL j cs)):IV e s n (some cs) d K F L σ:=⟨cs,rfl,.inl h⟩
theorem IV.own {d:Option Nat} {e s n:Nat} {cs:List AV} {ds:List DV} (hd:dvs cs=some ds) (hn:0 < n) (h:∀t,σ.tok t=false→K (Ao d (.own t e s (chunk s n ds)) F) L (σ.D0 t)):IV e s n (some cs) d K F L σ:=⟨cs,rfl,.inr ⟨ds,hd,hn,h⟩⟩
theorem uJ (n:Nat):W6 n none none=some (0,n):=by simp [W6]
theorem pT.mk {d:Option Nat} {e s b:Nat} {z:List AV} (n:Nat) (hb:b * n≤281474976710656) (hn:n≤9223372036854775807) (h:∀i,σ.blk i=none→K (Ao d (.ms i n s e) F) L (σ.AL i (Aj n z).flatten)):
 pT e s b z (.d (.int .i64 n)) (.d (.int .i64 n)) d K F L σ:=
 ⟨.i64,.i64,n,rfl,rfl,by omega,by rw [← Int.natCast_mul];omega,by omega,fun i hi=>by simpa using h i hi⟩
theorem AG.mk {d:Option Nat} {f:FuncId} {args:List AV} {Q:AV→AM→Prop} (hn:args.all AV.Au=true) (h:AR P f args σ Q) (hk:∀v σ',Q v σ'→K (Ao d v F) L σ'):
 AG P f args d K F L σ:=⟨hn,Q,h,hk⟩
theorem X0.mk {d:Option Nat} {f:FuncId} {args:List AV} {v:AV} (hn:args.all AV.Au=true) (h:AR P f args σ (fun v' σ'=>v'=v∧σ'=σ)) (hk:K (Ao d v F) L σ) (hv:v.Au=true:=by rfl):
 X0 P f args d K F L σ:=⟨hn,v,⟨hv,h⟩,hk⟩
theorem L2.mk {d:Option Nat} {e size bytes:Nat} {s x:AV} {rows srows:List (List DV)} {σ1:AM} (h1:P2 σ e size s=some (rows,σ1)) (h2:x.rows=some srows)
 (h3:∀r∈srows,r.length=size) (h4:rows.length+srows.length≤maxLen) (h5:(rows.length+srows.length) * bytes≤140737488355328)
 (h:∀t,σ.tok t=false→K (Ao d (.own t e size (rows++srows)) F) L (σ1.D0 t)):L2 e size bytes s x d K F L σ:= .inl ⟨rows,σ1,srows,h1,h2,h3,h4,h5,h⟩
theorem L2.clip {d:Option Nat} {e size bytes:Nat} {x:AV} {rows srows:List (List DV)} (h2:x.rows=some srows)
 (h3:∀r∈rows,r.length=size) (h3':∀r∈srows,r.length=size) (h4:rows.length+srows.length≤1000000000) (hb:bytes≤10000)
 (h:K (Ao d (.d (.sl (rows++srows))) F) L σ):L2 e size bytes (.clip rows) x d K F L σ:=
 .inr ⟨rows,srows,rfl,h2,h3,h3',by simp only [maxLen];omega,by
  calc (rows.length+srows.length) * bytes≤1000000000 * 10000:=O0 h4 hb
   _≤140737488355328:=by decide,h⟩
theorem AR.args {f:FuncId} {args args':List AV} {Q:AV→AM→Prop} (h:AR P f args' σ Q) (hw:∀g vs,VRs g args vs→VRs g args' vs):AR P f args σ Q:=
 fun base g Pr w0 w vs hr hv=>h base g Pr w0 w vs hr (hw g vs hv)
theorem XZ:∀(ops:List Q) {K K':C1} {F:Fm} {L:Lm} {σ:AM},(∀F L σ,K F L σ→K' F L σ)→BL P K ops F L σ→BL P K' ops F L σ
 |[],_,_,_,_,_,hk,hx=>hk _ _ _ hx
 |q::rest,K,K',F,L,σ,hk,hx=>by
  have hx:XG (gd F q.grd) (XO P q.dst (BL P K rest) F L σ q.o) (BL P K rest (Ao q.dst (.tup []) F) L σ):=hx
  show XG (gd F q.grd) (XO P q.dst (BL P K' rest) F L σ q.o) (BL P K' rest (Ao q.dst (.tup []) F) L σ)
  cases hc:gd F q.grd with
  |none=>rw [hc] at hx;exact hx.elim
  |some b=>
   rw [hc] at hx
   cases b
   · exact XZ rest hk hx
   · exact gU (fun F L σ h=>XZ rest hk h) hx
def Cut (live:List Nat) (F0:Fm) (L0:Lm) (σ0:AM):C1:=fun F L σ=>Vb live F=F0∧SD live L=L0∧σ=σ0
theorem Run.AAC {cx:Cx} {KK:AV→AM→Prop} {k:List CI} {ops:List Q} {live:List Nat} (hm:cx.P.follows .mixedOrders=true) (F0:Fm) (L0:Lm) (σ0:AM)
 (h1:BL cx.P (Cut live F0 L0 σ0) ops F L σ) (h2:Run cx KK k F0 L0 σ0):Run cx KK (.code (.reg ops live)::k) F L σ:=
 Run.reg hm (XZ ops (fun F L σ h=>by obtain ⟨e1,e2,e3⟩:=h;show Run cx KK k (Vb live F) (SD live L) σ;rw [e1,e2,e3];exact h2) h1)
theorem kC {P:Program} {m m1 m':Machine} (h:step P m= .next m1) (hs:Steps P m m') (hne:m≠m'):Steps P m1 m':=by
 obtain ⟨n,hn⟩:=hs
 cases n with
 |zero=>simp only [runN] at hn;cases hn;exact absurd rfl hne
 |succ n=>simp only [runN,h] at hn;exact ⟨n,hn⟩
theorem Run.B1 {cx:Cx} {KK:AV→AM→Prop} {k:List CI} {c:C} (h:Run cx KK (.again c::k) F L σ):Run cx KK (.code (.loop c)::k) F L σ:=by
 intro items base g lam Pr a w0 w b cs hi hf hb hk
 obtain ⟨p,ys,rfl,⟨p1,rfl,h1⟩,hys⟩:=hi.code
 obtain ⟨v,w',fr,hs,hfn,hl,rest⟩:=h (.inLoop p1::ys) base g lam Pr a w0 w b cs (.cons ⟨p1,rfl,h1⟩ hys) hf hb hk
 refine ⟨v,w',fr,.head step_loop (kC step_inLoop hs fun e=>?_),hfn,hl,rest⟩
 have h2:(lone (b.at a (.inLoop p1::ys)) cs w).gs=(lone fr cs w').gs:=by rw [e]
 simp only [lone,Array.mk.injEq,List.cons.injEq,Goroutine.mk.injEq] at h2
 have h3:(b.at a (.inLoop p1::ys)).mode=fr.mode:=by rw [h2.1.1]
 rw [hl.1] at h3
 cases h3
def Zq (v:AV) (A B:Prop):Prop:=
 match v with
 | .d (.bool b)=>(b=true→A)∧(b=false→B)
 |_=>False
theorem w7 (b:Bool) (A B:Prop):Zq (.d (.bool b)) A B=((b=true→A)∧(b=false→B)):=rfl
theorem w9 (A B:Prop):Zq (.d (.bool true)) A B=A:=by simp [Zq]
theorem w8 (A B:Prop):Zq (.d (.bool false)) A B=B:=by simp [Zq]
theorem Run.AJ {cx:Cx} {KK:AV→AM→Prop} {k:List CI} {x:X} {t e:C} (h:Zq (xv F x) (Run cx KK (.code t::k) F L σ) (Run cx KK (.code e::k) F L σ)):Run cx KK (.code (.cond x t e)::k) F L σ:=by
 cases hx:xv F x<;>rw [hx] at h<;>try exact h.elim
 rename_i dv
 cases dv<;>try exact h.elim
 exact Run.cond hx h.1 h.2
mutual
def AV.plain:AV→AV
 | .AX=>.d (.sl [])
 | .FD=>.d .FD
 | .own _ _ _ rows=>.d (.sl rows)
 | .clip rows=>.d (.sl rows)
 | .agg cs=>.agg (AV.FF cs)
 | .tup vs=>.tup (AV.FF vs)
 |v=>v
def AV.FF:List AV→List AV
 |[]=>[]
 |v::l=>AV.plain v::AV.FF l
end
theorem cS (x:DV):AV.plain (AV.d x)=(AV.d x):=by simp only [AV.plain]
theorem UM:AV.plain AV.AX= .d (.sl []):=by simp only [AV.plain]
theorem oR (t e s:Nat) (r:List (List DV)):AV.plain (AV.own t e s r)= .d (.sl r):=by simp only [AV.plain]
theorem jV (r:List (List DV)):AV.plain (AV.clip r)= .d (.sl r):=by simp only [AV.plain]
theorem Vm (r:List AV):AV.plain (AV.agg r)= .agg (AV.FF r):=by simp only [AV.plain]
theorem sK (j o:Nat):AV.plain (AV.lp j o)=(AV.lp j o):=by simp only [AV.plain]
theorem sJ (j o:Nat):AV.plain (AV.gp j o)=(AV.gp j o):=by simp only [AV.plain]
theorem sI (r:List DV) (o:Nat):AV.plain (AV.ep r o)=(AV.ep r o):=by simp only [AV.plain]
theorem jX:AV.plain AV.FD= .d .FD:=by simp only [AV.plain]
theorem sL (i n s e:Nat):AV.plain (AV.ms i n s e)=(AV.ms i n s e):=by simp only [AV.plain]
theorem sM (i o n s e:Nat):AV.plain (AV.mv i o n s e)=(AV.mv i o n s e):=by simp only [AV.plain]
theorem sH (t e:Nat) (s:List UInt8):AV.plain (AV.bp t e s)=(AV.bp t e s):=by simp only [AV.plain]
theorem jW:AV.plain AV.Oq=AV.Oq:=by simp only [AV.plain]
theorem plain_fn (f:FuncId) (x y:List AV):AV.plain (AV.fn f x y)=(AV.fn f x y):=by simp only [AV.plain]
theorem oS (x:List AV):AV.plain (AV.tup x)= .tup (AV.FF x):=by simp only [AV.plain]
theorem fL:AV.plain AV.undef=AV.undef:=by simp only [AV.plain]
theorem NH:∀(l:List AV) (i:Nat),(AV.FF l)[i]?=(l[i]?).map AV.plain
 |[],i=>by simp [AV.FF]
 |v::l,0=>by simp [AV.FF]
 |v::l,i+1=>by simp [AV.FF,NH l i]
theorem UN:∀l:List AV,(AV.FF l).length=l.length
 |[]=>rfl
 |v::l=>by simp [AV.FF,UN l]
theorem YW {v:AV} (h:v.CT=true):v.plain.CT=true:=by cases v<;>first|rfl|(cases h;done)
theorem VR.plain {g:Gh} {x:AV} {v:Value} (h:VR g x v):VR g x.plain v:=by
 induction h with
 |d h=>simpa [AV.plain] using VR.d h
 |AX=>exact .d (.nil (CQ _) (fun _=>rfl))
 |own h _ _=>exact .d h
 |clip h=>exact .d h
 |@agg cs vs hl hc _ ih=>
  refine .agg (by rw [UN];exact hl) (fun c hcm=>?_) (fun i c v hci hvi=>?_)
  · obtain ⟨i,hi,rfl⟩:=Cb hcm
    have:=NH cs i
    rw [Aq hi] at this
    cases hcs:cs[i]? with
    |none=>rw [hcs] at this;cases this
    |some c'=>rw [hcs] at this;simp only [C3,AQ] at this;rw [this];exact YW (hc c' (Ad hcs))
  · rw [NH] at hci
    cases hcs:cs[i]? with
    |none=>rw [hcs] at hci;cases hci
    |some c'=>rw [hcs] at hci;simp only [C3,AQ] at hci;rw [← hci];exact ih i c' v hcs hvi
 |gp h=>simpa [AV.plain] using VR.gp h
 |ep hi hr=>simpa [AV.plain] using VR.ep hi hr
 |FD=>exact .d .FD
 |Oq=>simpa [AV.plain] using VR.Oq
 |ms h hr hn hm=>simpa [AV.plain] using VR.ms h hr hn hm
 |mv h hr hn hm ho=>simpa [AV.plain] using VR.mv h hr hn hm ho
 |bp h k=>simpa [AV.plain] using VR.bp h k
 |fn hl hl' h h' _ _=>simpa [AV.plain] using VR.fn hl hl' h h'
 |@tup cs vs hl _ ih=>
  refine .tup (by rw [UN];exact hl) (fun i c v hci hvi=>?_)
  rw [NH] at hci
  cases hcs:cs[i]? with
  |none=>rw [hcs] at hci;cases hci
  |some c'=>rw [hcs] at hci;simp only [C3,AQ] at hci;rw [← hci];exact ih i c' v hcs hvi
 |undef=>simpa [AV.plain] using VR.undef
theorem VRs.plain {g:Gh} {xs:List AV} {vs:List Value} (h:VRs g xs vs):VRs g (AV.FF xs) vs:=by
 induction h with
 |nil=>exact .nil
 |cons h _ ih=>exact .cons h.plain ih
theorem AR.plain {f:FuncId} {args:List AV} {Q:AV→AM→Prop} (h:AR P f (AV.FF args) σ Q):AR P f args σ Q:=
 fun base g Pr w0 w vs hr hv=>h base g Pr w0 w vs hr hv.plain
def yK (o:Option AV) (K:AV→AM→Prop) (σ:AM):Prop:=
 match o with
 |some v=>K v σ
 |none=>False
theorem pM (v:AV) (K:AV→AM→Prop) (σ:AM):yK (some v) K σ=K v σ:=rfl
theorem Run.Aa {cx:Cx} {KK:AV→AM→Prop} {k:List CI} {σ2:AM} (hg:Good cx) (hσ:σ2.le σ) (h:yK ((cW F L σ cx.rs).map AV.plain) KK σ2):Run cx KK (.code .ret::k) F L σ:=by
 cases hr:cW F L σ cx.rs with
 |none=>rw [hr] at h;exact h.elim
 |some v=>rw [hr] at h;exact Run.ret hg hr (fun _ _ h=>h.plain) hσ h
theorem Run.Fe {cx:Cx} {KK:AV→AM→Prop} {k:List CI} {σ2:AM} (hg:Good cx) (hσ:σ2.le σ) (h:yK (cW F L σ cx.rs) KK σ2):Run cx KK (.code .ret::k) F L σ:=by
 cases hr:cW F L σ cx.rs with
 |none=>rw [hr] at h;exact h.elim
 |some v=>rw [hr] at h;exact Run.ret hg hr (fun _ _ h=>h) hσ h
theorem AO (σ:AM) (i j:Nat) (cs:List AV):(σ.AL i cs).blk j=if j=i then some cs else σ.blk j:=rfl
theorem A2 (σ:AM) (i:Nat) (cs ds:List AV):(σ.AL i cs).AL i ds=σ.AL i ds:=by
 unfold AM.AL
 congr 1
 funext j
 by_cases h:j=i<;>simp [h]
theorem Ic {σ:AM} {i:Nat} {cs:List AV} (h:σ.blk i=some cs):σ.AL i cs=σ:=by
 unfold AM.AL
 cases σ
 congr 1
 funext j
 split
 · rename_i e;subst e;exact h.symm
 · rfl
theorem GA (σ:AM) (t i:Nat):(σ.D0 t).blk i=σ.blk i:=rfl
theorem iM (σ:AM) (t i:Nat):(σ.FB t).blk i=σ.blk i:=rfl
theorem AM.le_trans {a b c:AM} (h:a.le b) (k:b.le c):a.le c:=⟨fun i cs x=>k.blk i cs (h.blk i cs x),fun t x=>k.tok t (h.tok t x),h.gt.trans k.gt,fun i x hx=>k.bt i x (h.bt i x hx)⟩
theorem FG {σ:AM} {i:Nat} {cs:List AV} (h:σ.blk i=none):σ.le (σ.AL i cs):=
 ⟨fun j ds hj=>by
   have:j≠i:=fun e=>by rw [e,h] at hj;cases hj
   rw [AO,if_neg this];exact hj,fun _ h=>h,rfl,fun _ _ h=>h⟩
structure EZ (σ:AM) (e s:Nat) (rows:List (List DV)) (v:AV) (σ':AM):Prop where
 app:∃σ1,P2 σ' e s v=some (rows,σ1)∧σ.le σ1
 le:σ.le σ'
 plain:v.plain= .d (.sl rows)
 len:TH v=some (.d (.int .i64 rows.length))
 cell:v.CT=true
 Au:v.Au=true
 BS:∀k,v.BS k=false
 dv:v.dv=some (.sl rows)
 cells:v.cells=[v]
theorem EZ.nil (σ:AM) (e s:Nat):EZ σ e s [] .AX σ:=
 ⟨⟨σ,rfl,AM.le_refl σ⟩,AM.le_refl σ,rfl,rfl,rfl,rfl,fun _=>rfl,rfl,rfl⟩
theorem EZ.own {σ σ1 σ':AM} {e s t:Nat} {rows:List (List DV)} (hle:σ.le σ1) (hle':σ.le σ') (ht:σ'.tok t=false):EZ σ e s rows (.own t e s rows) (σ1.D0 t):=by
 have hnt:σ.tok t=false:=by
  cases h:σ.tok t with
  |false=>rfl
  |true=>rw [hle'.tok t h] at ht;cases ht
 refine ⟨⟨(σ1.D0 t).FB t,by simp [P2,AM.D0],⟨fun i cs h=>hle.blk i cs h,fun t' h=>?_,hle.gt,hle.bt⟩⟩,⟨fun i cs h=>hle.blk i cs h,fun t' h=>?_,hle.gt,hle.bt⟩,rfl,rfl,rfl,rfl,fun _=>rfl,rfl,rfl⟩
 · have hne:t'≠t:=fun e=>by rw [e,hnt] at h;cases h
   simp [AM.FB,AM.D0,hne,hle.tok t' h]
 · have hne:t'≠t:=fun e=>by rw [e,hnt] at h;cases h
   simp [AM.D0,hne,hle.tok t' h]
theorem L2.own {σ0:AM} {d:Option Nat} {e size bytes:Nat} {s x:AV} {rows srows:List (List DV)} (ho:EZ σ0 e size rows s σ) (h2:x.rows=some srows)
 (h3:∀r∈srows,r.length=size) (h4:rows.length+srows.length≤1000000000) (hb:bytes≤10000)
 (h:∀v σ',EZ σ0 e size (rows++srows) v σ'→(∀i,σ'.blk i=σ.blk i)→K (Ao d v F) L σ'):L2 e size bytes s x d K F L σ:=by
 obtain ⟨σ1,ha,hl⟩:=ho.app
 refine L2.mk ha h2 h3 (by simp only [maxLen];omega) ?_ (fun t ht=>h _ _ (EZ.own hl ho.le ht) (fun i=>?_))
 · calc (rows.length+srows.length) * bytes≤1000000000 * 10000:=O0 h4 hb
    _≤140737488355328:=by decide
 · rw [GA]
   unfold P2 at ha
   split at ha
   · cases ha;rfl
   · split at ha
     · cases ha;rfl
     · cases ha
   · cases ha
variable {cx:Cx} {KK:AV→AM→Prop} {k:List CI}
theorem Run.facts {p:Prop} (hp:∀base g lam Pr a w0 w,BY base g lam Pr cx.N F L σ a w0 w→p) (h:p→Run cx KK k F L σ):Run cx KK k F L σ:=
 fun items base g lam Pr a w0 w b cs hi hf hb hk=>h (hp base g lam Pr a w0 w hf) items base g lam Pr a w0 w b cs hi hf hb hk
def AV.FJ:AV→Prop
 | .d (.sl rows)=>rows.length≤9223372036854775807
 | .d (.str s)=>s.length≤9223372036854775807
 | .d (.int k n)=>k.min≤n∧n≤k.max
 | .own _ _ _ rows=>rows.length≤9223372036854775807
 | .clip rows=>rows.length≤9223372036854775807
 |_=>True
theorem VR.FJ {g:Gh} {x:AV} {v:Value} (h:VR g x v):x.FJ:=by
 cases h with
 |d h=>
  cases h with
  |int h=>exact h
  |bool=>trivial
  |str h=>exact h
  |nil=>simp [AV.FJ]
  |sl hc hm _ _ _=>exact BD hc hm
  |ptr=>trivial
  |FD=>trivial
 |own h _ _=>obtain ⟨_,_,_,h2⟩:=h.KS;exact h2
 |clip h=>obtain ⟨_,_,_,h2⟩:=h.KS;exact h2
 |_=>trivial
theorem SV.FJ {g:Gh} {lam:Nat→Option Nat} {x:AV} {v:Value} (h:SV g lam x v):x.FJ:=by
 cases x<;>first|exact VR.FJ h|trivial
theorem Run.slot (s:Nat) (h:(F s).FJ→Run cx KK k F L σ):Run cx KK k F L σ:=
 Run.facts (fun _ _ _ _ _ _ _ hf=>(hf.tm s).FJ) h
theorem Run.cell (j o:Nat) {cs:List AV} {c:AV} (hL:L j=some cs) (hc:cs[o]?=some c) (h:c.FJ→Run cx KK k F L σ):Run cx KK k F L σ:=
 Run.facts (fun _ _ _ _ _ _ _ hf=>by
  obtain ⟨_,b,vs,ty,_,_,_,hr⟩:=hf.loc j cs hL
  obtain ⟨v,_,hv⟩:=hr.at o c hc
  exact hv.FJ) h
end Go.Ab
