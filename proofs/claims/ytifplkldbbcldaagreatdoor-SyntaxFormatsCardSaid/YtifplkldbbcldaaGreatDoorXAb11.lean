/- Compact code, its runs at the abstract level, and contracts out of runs. Equations that run compact code at the abstract level. Conditions: none. -/
import Derived.Scope
import Derived.Test.YtifplkldbbcldaaGreatDoorXAb10d
set_option linter.unusedSimpArgs false
set_option linter.unusedVariables false
set_option maxRecDepth 4000
set_option maxHeartbeats 8000000
open List renaming range→Ix,all_cons→Bz,getD_eq_getElem?_getD→VA,getElem?_eq_some_iff→Ad,mem_cons→CW,all_nil→Lh,replicate→Ak,getElem_of_mem→Cj,getElem?_eq_getElem→Ay,mem_of_getElem?→Aa
open Option.some renaming injEq→AR
open Prod.mk renaming injEq→Bc
open Option renaming getD_some→RK,map_eq_some_iff→AL,bind_eq_some_iff→AF,bind_eq_bind→AT,map_some→Ca
open Go renaming undef→Cm
open Bool renaming and_eq_true→AM,false_eq_true→AU
open Nat renaming le_refl→A8,mul_le_mul→Om,zero_le→C0,le_trans→BC
open Array renaming replicate→En,getD_eq_getD_getElem?→Cl
namespace Go.Ab
open Go.RowKit
inductive C where
 |skip
 |reg (ops:List Q) (live:List Nat)
 |FA (t:QT) (live:List Nat)
 |seq (x y:C)
 |cond (x:X) (t e:C)
 |block (id:Nat) (c:C)
 |loop (c:C)
 |exit (id:Nat)
 |ret
 |scope (c:C)
 |bad
inductive CI where
 |code (c:C)
 |blk (id:Nat)
 |scp
 |again (c:C)
def kN (P:Program) (N:Nat) (esc:List Nat) (pf:List FuncId) (live:List Nat) (pt:PT) (ops:Array Oper):Option C:=
 match pt with
 | .done=>(nK P N esc pf (Ix ops.size) ops).map fun q=>.reg q live
 |pt=>(Y8 P N esc pf pt ops).map fun t=>match lin t with
  |some q=>.reg q live
  |none=>.FA t live
def HI (P:Program) (N:Nat) (esc:List Nat) (pf:List FuncId):Code→List (List Nat×PT)→Option (C×List (List Nat×PT))
 | .skip,ct=>some (.skip,ct)
 | .region _ ops false,(live,_)::ct=>some (((NG P N esc ops (Ix ops.size)).map fun q=>C.reg q live).getD .bad,ct)
 | .region _ ops true,(live,pt)::ct=>some ((kN P N esc pf live pt ops).getD .bad,ct)
 | .seq x y,ct=>(HI P N esc pf x ct).bind fun r=>(HI P N esc pf y r.2).map fun r'=>(.seq r.1 r'.1,r'.2)
 | .cond c t e,ct=>(xo c).bind fun c'=>(HI P N esc pf t ct).bind fun r=>(HI P N esc pf e r.2).map fun r'=>(.cond c' r.1 r'.1,r'.2)
 | .block id c,ct=>(HI P N esc pf c ct).map fun r=>(.block id r.1,r.2)
 | .loop c,ct=>(HI P N esc pf c ct).map fun r=>(.loop r.1,r.2)
 | .exit id,ct=>some (.exit id,ct)
 | .ret,ct=>some (.ret,ct)
 | .scope c,ct=>(HI P N esc pf c ct).map fun r=>(.scope r.1,r.2)
 | .label _,ct=>some (.skip,ct)
 |_,_=>none
inductive RV where
 |t (n:Nat)
 |c (n:Nat) (k:Option Nat)
def Wq (P:Program):List ResultVar→Option (List RV)
 |[]=>some []
 | .tmp n::l=>do some (.t n::(← Wq P l))
 | .cell n t::l=>do
  let k ← ldN P t
  some (.c n k::(← Wq P l))
def rvA (F:Fm) (L:Lm) (σ:AN):RV→Option AV
 | .t n=>some (F n)
 | .c n k=>ldA L σ (F n) k
def mL (F:Fm) (L:Lm) (σ:AN):List RV→Option (List AV)
 |[]=>some []
 |r::l=>do some ((← rvA F L σ r)::(← mL F L σ l))
def eX (F:Fm) (L:Lm) (σ:AN) (rs:List RV):Option AV:=
 (mL F L σ rs).bind fun vs=>if vs.all AV.As then (match vs with|[v]=>some v|vs=>some (.tup vs)) else none
def WR (ks:List Nat) (F:Fm):Fm:=fun s=>if s∈ks then F s else .undef
def Sb (ks:List Nat) (L:Lm):Lm:=fun s=>if s∈ks then L s else none
variable {P:Program} {base N:Nat} {g g':Gh} {Pr:Nat→Prop} {σ σ':AN} {w0 w w':World} {lam:Nat→Option Nat} {F F':Fm} {L L':Lm} {a:Act}
theorem B4.mY (h:B4 base g lam Pr N F L σ a w0 w) (hF:∀s,F' s=F s∨F' s= .undef) (hL:∀k cs,L' k=some cs→L k=some cs) (hσ:σ'.le σ):B4 base g lam Pr N F' L' σ' a w0 w:=by
 refine ⟨fun s=>?_,h.sz,h.df,fun k cs hk=>h.loc k cs (hL k cs hk),h.inj,h.npr,h.rel.less hσ⟩
 rcases hF s with e|e
 · rw [e];exact h.tm s
 · rw [e];exact VR.undef
theorem B4.kept (h:B4 base g lam Pr N F L σ a w0 w) (ks:List Nat):B4 base g lam Pr N (WR ks F) (Sb ks L) σ a w0 w:=
 h.mY (fun s=>by simp only [WR];split<;>simp) (fun k cs hk=>by simp only [Sb] at hk;split at hk<;>simp_all) (AN.le_refl σ)
structure Cx where
 P:Program
 f:FuncId
 fn:Func
 N:Nat
 esc:List Nat
 pf:List FuncId
 rs:List RV
def RC (cx:Cx):C→Code→Prop
 | .skip,k=>k= .skip∨∃l,k= .label l
 | .scope c,k=>∃p,k= .scope p∧RC cx c p
 | .reg ops _,k=>∃id arr,(k= .region id arr false∧NG cx.P cx.N cx.esc arr (Ix arr.size)=some ops)∨(k= .region id arr true∧∃order,nK cx.P cx.N cx.esc cx.pf order arr=some ops)∨(k= .region id arr true∧∃pt t,Y8 cx.P cx.N cx.esc cx.pf pt arr=some t∧lin t=some ops)
 | .FA t _,k=>∃id arr pt,k= .region id arr true∧Y8 cx.P cx.N cx.esc cx.pf pt arr=some t
 | .seq x y,k=>∃p q,k= .seq p q∧RC cx x p∧RC cx y q
 | .cond x t e,k=>∃c p q,k= .cond c p q∧xo c=some x∧RC cx t p∧RC cx e q
 | .block id c,k=>∃p,k= .block id p∧RC cx c p
 | .loop c,k=>∃p,k= .loop p∧RC cx c p
 | .exit id,k=>k= .exit id
 | .ret,k=>k= .ret
 | .bad,_=>True
theorem AZ (cx:Cx):∀(k:Code) (ct:List (List Nat×PT)) (c:C) (ct':List (List Nat×PT)),HI cx.P cx.N cx.esc cx.pf k ct=some (c,ct')→RC cx c k
 | .skip,ct,c,ct',h=>by simp only [HI,AR,Bc] at h;rw [← h.1];exact .inl rfl
 | .region id ops dr,ct,c,ct',h=>by
  cases ct with
  |nil=>cases dr<;>simp only [HI] at h<;>cases h
  |cons lo ct=>
   obtain ⟨live,order⟩:=lo
   cases dr
   · simp only [HI,AR,Bc] at h
     obtain ⟨rfl,_⟩:=h
     cases hq:NG cx.P cx.N cx.esc ops (Ix ops.size) with
     |none=>exact trivial
     |some qs=>exact ⟨id,ops,.inl ⟨rfl,hq⟩⟩
   · simp only [HI,AR,Bc] at h
     obtain ⟨rfl,_⟩:=h
     cases hq:kN cx.P cx.N cx.esc cx.pf live order ops with
     |none=>exact trivial
     |some c'=>
     simp only [RK]
     unfold kN at hq
     split at hq
     · simp only [AL] at hq
       obtain ⟨qs,hq',rfl⟩:=hq
       exact ⟨id,ops,.inr (.inl ⟨rfl,_,hq'⟩)⟩
     · simp only [AL] at hq
       obtain ⟨t,ht,rfl⟩:=hq
       cases hl:lin t with
       |some q=>exact ⟨id,ops,.inr (.inr ⟨rfl,_,t,ht,hl⟩)⟩
       |none=>exact ⟨id,ops,_,rfl,ht⟩
 | .seq x y,ct,c,ct',h=>by
  simp only [HI,AF,AL,Bc] at h
  obtain ⟨⟨x',c1⟩,hx,⟨y',c2⟩,hy,rfl,_⟩:=h
  exact ⟨x,y,rfl,AZ cx x _ _ _ hx,AZ cx y _ _ _ hy⟩
 | .cond c t e,ct,c2,ct',h=>by
  simp only [HI,AF,AL,Bc] at h
  obtain ⟨x,hx,⟨t',c1⟩,ht,⟨e',c3⟩,he,rfl,_⟩:=h
  exact ⟨c,t,e,rfl,hx,AZ cx t _ _ _ ht,AZ cx e _ _ _ he⟩
 | .block id p,ct,c,ct',h=>by
  simp only [HI,AL,Bc] at h
  obtain ⟨⟨c',c1⟩,hc,rfl,_⟩:=h
  exact ⟨p,rfl,AZ cx p _ _ _ hc⟩
 | .loop p,ct,c,ct',h=>by
  simp only [HI,AL,Bc] at h
  obtain ⟨⟨c',c1⟩,hc,rfl,_⟩:=h
  exact ⟨p,rfl,AZ cx p _ _ _ hc⟩
 | .exit id,ct,c,ct',h=>by simp only [HI,AR,Bc] at h;rw [← h.1];rfl
 | .ret,ct,c,ct',h=>by simp only [HI,AR,Bc] at h;rw [← h.1];rfl
 | .rangeFunc ..,ct,c,ct',h=>by simp only [HI] at h;cases h
 | .scope p,ct,c,ct',h=>by
  simp only [HI,AL,Bc] at h
  obtain ⟨⟨c',c1⟩,hc,rfl,_⟩:=h
  exact ⟨p,rfl,AZ cx p _ _ _ hc⟩
 | .label l,ct,c,ct',h=>by simp only [HI,AR,Bc] at h;rw [← h.1];exact .inr ⟨l,rfl⟩
 | .goto _,ct,c,ct',h=>by simp only [HI] at h;cases h
 | .refuse _,ct,c,ct',h=>by simp only [HI] at h;cases h
def RI (cx:Cx):CI→Item→Prop
 | .code c,y=>∃k,y= .code k∧RC cx c k
 | .blk id,y=>y= .inBlock id
 | .scp,y=>∃k,y= .inScope k
 | .again c,y=>∃k,y= .inLoop k∧RC cx c k
inductive RIs (cx:Cx):List CI→List Item→Prop
 |nil:RIs cx [] []
 |cons {x:CI} {y:Item} {xs:List CI} {ys:List Item} (h:RI cx x y) (hs:RIs cx xs ys):RIs cx (x::xs) (y::ys)
def Good (cx:Cx):Prop:=cx.P.funcs[cx.f]?=some cx.fn∧Wq cx.P cx.fn.results.toList=some cx.rs
def Run (cx:Cx) (K:AV→AN→Prop) (todo:List CI) (F:Fm) (L:Lm) (σ:AN):Prop:=
 ∀(items:List Item) (base:Nat) (g:Gh) (lam:Nat→Option Nat) (Pr:Nat→Prop) (a:Act) (w0 w:World) (b:Frame) (cs:List Frame),
  RIs cx todo items→B4 base g lam Pr cx.N F L σ a w0 w→b.fn=cx.f→b.kind= .normal→
  ∃v w' fr,Steps cx.P (lone (b.at a items) cs w) (lone fr cs w')∧fr.fn=cx.f∧fr.leaving cx.P w' (.returned v)∧
   ∃av g' σ',VR g' av v∧Rel base g' Pr σ' w0 w'∧g.le g'∧KP Pr w w'∧K av σ'
variable {cx:Cx} {K:AV→AN→Prop} {k:List CI}
theorem Run.mY (hF:∀s,F' s=F s∨F' s= .undef) (hL:∀k cs,L' k=some cs→L k=some cs) (hσ:σ'.le σ) (h:Run cx K k F' L' σ'):Run cx K k F L σ:=
 fun items base g lam Pr a w0 w b cs hi hf hb hk=>h items base g lam Pr a w0 w b cs hi (hf.mY hF hL hσ) hb hk
theorem Run.Mi {k':List CI}
 (hs:∀items,RIs cx k items→∃items',RIs cx k' items'∧∀(b:Frame) (a:Act) (cs:List Frame) (w:World),step cx.P (lone (b.at a items) cs w)= .next (lone (b.at a items') cs w))
 (h:Run cx K k' F L σ):Run cx K k F L σ:=by
 intro items base g lam Pr a w0 w b cs hi hf hb hk
 obtain ⟨items',hi',hst⟩:=hs items hi
 obtain ⟨v,w',fr,hss,rest⟩:=h items' base g lam Pr a w0 w b cs hi' hf hb hk
 exact ⟨v,w',fr,.head (hst b a cs w) hss,rest⟩
theorem RIs.code {c:C} {items:List Item} (h:RIs cx (.code c::k) items):∃p ys,items= .code p::ys∧RC cx c p∧RIs cx k ys:=by
 cases h with
 |cons hy hys=>obtain ⟨p,rfl,hp⟩:=hy;exact ⟨p,_,rfl,hp,hys⟩
theorem RIs.Mh {c:C} {p:Code} {ys:List Item} (hc:RC cx c p) (h:RIs cx k ys):RIs cx (.code c::k) (.code p::ys):= .cons ⟨p,rfl,hc⟩ h
theorem Run.skip (h:Run cx K k F L σ):Run cx K (.code .skip::k) F L σ:=
 h.Mi fun items hi=>by
  obtain ⟨p,ys,rfl,hp,hys⟩:=hi.code
  rcases hp with rfl|⟨l,rfl⟩
  · exact ⟨ys,hys,fun b a cs w=>step_skip⟩
  · exact ⟨ys,hys,fun b a cs w=>step_label⟩
theorem Run.scope {c:C} (h:Run cx K (.code c::.scp::k) F L σ):Run cx K (.code (.scope c)::k) F L σ:=
 h.Mi fun items hi=>by
  obtain ⟨p,ys,rfl,⟨p1,rfl,h1⟩,hys⟩:=hi.code
  exact ⟨_,.Mh h1 (.cons ⟨p1,rfl⟩ hys),fun b a cs w=>step_scope⟩
theorem Run.scp (h:Run cx K k F L σ):Run cx K (.scp::k) F L σ:=
 h.Mi fun items hi=>by
  cases hi with
  |cons hy hys=>obtain ⟨p,rfl⟩:=hy;exact ⟨_,hys,fun b a cs w=>step_inScope⟩
theorem Run.seq {x y:C} (h:Run cx K (.code x::.code y::k) F L σ):Run cx K (.code (.seq x y)::k) F L σ:=
 h.Mi fun items hi=>by
  obtain ⟨p,ys,rfl,⟨p1,p2,rfl,h1,h2⟩,hys⟩:=hi.code
  exact ⟨_,.Mh h1 (.Mh h2 hys),fun b a cs w=>step_seq⟩
theorem Run.block {id:Nat} {c:C} (h:Run cx K (.code c::.blk id::k) F L σ):Run cx K (.code (.block id c)::k) F L σ:=
 h.Mi fun items hi=>by
  obtain ⟨p,ys,rfl,⟨p1,rfl,h1⟩,hys⟩:=hi.code
  exact ⟨_,.Mh h1 (.cons rfl hys),fun b a cs w=>step_block⟩
theorem Run.blk {id:Nat} (h:Run cx K k F L σ):Run cx K (.blk id::k) F L σ:=
 h.Mi fun items hi=>by
  cases hi with
  |cons hy hys=>cases hy;exact ⟨_,hys,fun b a cs w=>step_inBlock⟩
theorem Run.loop {c:C} (h:Run cx K (.code c::.again c::k) F L σ):Run cx K (.code (.loop c)::k) F L σ:=
 h.Mi fun items hi=>by
  obtain ⟨p,ys,rfl,⟨p1,rfl,h1⟩,hys⟩:=hi.code
  exact ⟨_,.Mh h1 (.cons ⟨p1,rfl,h1⟩ hys),fun b a cs w=>step_loop⟩
theorem Run.again {c:C} (h:Run cx K (.code c::.again c::k) F L σ):Run cx K (.again c::k) F L σ:=
 h.Mi fun items hi=>by
  cases hi with
  |cons hy hys=>obtain ⟨p1,rfl,h1⟩:=hy;exact ⟨_,.Mh h1 (.cons ⟨p1,rfl,h1⟩ hys),fun b a cs w=>step_inLoop⟩
def VZ (id:Nat):List CI→Option (List CI)
 | .blk id'::k=>if id'=id then some k else VZ id k
 |_::k=>VZ id k
 |[]=>none
theorem LL {id:Nat}:∀(k:List CI) (items:List Item) (k':List CI),RIs cx k items→VZ id k=some k'→∃items',exitTo id items=some items'∧RIs cx k' items'
 |[],_,_,_,h=>by cases h
 |x::k,items,k',hi,h=>by
  cases hi with
  |@cons _ y _ ys hy hys=>
   cases x with
   |code c=>
    obtain ⟨p,rfl,_⟩:=hy
    obtain ⟨i',h1,h2⟩:=LL k ys k' hys (by simpa [VZ] using h)
    exact ⟨i',by simpa [exitTo] using h1,h2⟩
   |again c=>
    obtain ⟨p,rfl,_⟩:=hy
    obtain ⟨i',h1,h2⟩:=LL k ys k' hys (by simpa [VZ] using h)
    exact ⟨i',by simpa [exitTo] using h1,h2⟩
   |scp=>
    obtain ⟨p,rfl⟩:=hy
    obtain ⟨i',h1,h2⟩:=LL k ys k' hys (by simpa [VZ] using h)
    exact ⟨i',by simpa [exitTo] using h1,h2⟩
   |blk id'=>
    cases hy
    simp only [VZ] at h
    split at h
    · rename_i e
      cases h
      exact ⟨ys,by simp [exitTo,e],hys⟩
    · rename_i e
      obtain ⟨i',h1,h2⟩:=LL k ys k' hys h
      exact ⟨i',by simpa [exitTo,e] using h1,h2⟩
theorem Run.exit {id:Nat} {k':List CI} (he:VZ id k=some k') (h:Run cx K k' F L σ):Run cx K (.code (.exit id)::k) F L σ:=
 h.Mi fun items hi=>by
  obtain ⟨p,ys,rfl,hp,hys⟩:=hi.code
  cases hp
  obtain ⟨i',h1,h2⟩:=LL k ys k' hys he
  exact ⟨i',h2,fun b a cs w=>step_exit h1⟩
theorem Run.cond {x:X} {t e:C} {b:Bool} (hx:xv F x= .d (.bool b)) (ht:b=true→Run cx K (.code t::k) F L σ) (he:b=false→Run cx K (.code e::k) F L σ):
 Run cx K (.code (.cond x t e)::k) F L σ:=by
 intro items base g lam Pr a w0 w fb cs hi hf hb hk
 obtain ⟨p,ys,rfl,⟨c,p1,p2,rfl,hc,h1,h2⟩,hys⟩:=hi.code
 have hv:=Ai hc hf
 rw [hx] at hv
 have hev:a.eval c= .bool b:=by generalize a.eval c=vc at hv;cases hv with|d hh=>cases hh;rfl
 cases b with
 |true=>
  obtain ⟨v,w',fr,hs,rest⟩:=ht rfl _ base g lam Pr a w0 w fb cs (.Mh h1 hys) hf hb hk
  exact ⟨v,w',fr,.head (step_cond hev) hs,rest⟩
 |false=>
  obtain ⟨v,w',fr,hs,rest⟩:=he rfl _ base g lam Pr a w0 w fb cs (.Mh h2 hys) hf hb hk
  exact ⟨v,w',fr,.head (step_cond hev) hs,rest⟩
def o6 (cx:Cx) (K:AV→AN→Prop) (k:List CI) (live:List Nat):CY:=fun F L σ=>Run cx K k (WR live F) (Sb live L) σ
theorem Run.reg {ops:List Q} {live:List Nat} (hm:cx.P.follows .mixedOrders=true) (h:BR cx.P (o6 cx K k live) ops F L σ):Run cx K (.code (.reg ops live)::k) F L σ:=by
 intro items base g lam Pr a w0 w b cs hi hf hb hk
 obtain ⟨p,ys,rfl,⟨id,arr,hp⟩,hys⟩:=hi.code
 have hw:p.wp cx.P (fun e a' w'=>e= .normal∧FI base Pr cx.N w0 g w (o6 cx K k live) a' w') a w:=by
  rcases hp with ⟨rfl,hc⟩|⟨rfl,order,hc⟩|⟨rfl,pt,t,hc,hl⟩
  · exact wp_region (Zz cx.P arr cx.N cx.esc (o6 cx K k live) _ _ base g lam Pr F L σ a w0 w hc h hf (fun _ _ h=>⟨rfl,h⟩))
  · exact kT hm hc h hf
  · exact Wt hm hc (uR t ops F L σ hl h) hf
 obtain ⟨e,a',w',⟨he,g',lam',F',L',σ',hle,hkp,hf',hK⟩,harr⟩:=hw b ys cs
 subst he
 obtain ⟨v,w2,fr,hs,hfn,hl,av,g2,σ2,hvr,hrel,hle2,hkp2,hk2⟩:=hK ys base g' lam' Pr a' w0 w' b cs hys (hf'.kept live) hb hk
 exact ⟨v,w2,fr,Steps.trans harr hs,hfn,hl,av,g2,σ2,hvr,hrel,Gh.le_trans hle hle2,hkp.trans hkp2,hk2⟩
theorem Run.FA {t:QT} {live:List Nat} (hm:cx.P.follows .mixedOrders=true) (h:XT cx.P (o6 cx K k live) false t F L σ):Run cx K (.code (.FA t live)::k) F L σ:=by
 intro items base g lam Pr a w0 w b cs hi hf hb hk
 obtain ⟨p,ys,rfl,⟨id,arr,pt,rfl,hc⟩,hys⟩:=hi.code
 have hw:(Code.region id arr true).wp cx.P (fun e a' w'=>e= .normal∧FI base Pr cx.N w0 g w (o6 cx K k live) a' w') a w:=Wt hm hc h hf
 obtain ⟨e,a',w',⟨he,g',lam',F',L',σ',hle,hkp,hf',hK⟩,harr⟩:=hw b ys cs
 subst he
 obtain ⟨v,w2,fr,hs,hfn,hl,av,g2,σ2,hvr,hrel,hle2,hkp2,hk2⟩:=hK ys base g' lam' Pr a' w0 w' b cs hys (hf'.kept live) hb hk
 exact ⟨v,w2,fr,Steps.trans harr hs,hfn,hl,av,g2,σ2,hvr,hrel,Gh.le_trans hle hle2,hkp.trans hkp2,hk2⟩
theorem Wc (hf:B4 base g lam Pr N F L σ a w0 w):∀(l:List ResultVar) (rs:List RV) (vs:List AV),Wq P l=some rs→mL F L σ rs=some vs→vs.all AV.As=true→
 ∃xs:List Value,(l.mapM fun| .tmp t=>pure (a.tmps.getD t Cm)| .cell ad t=>do loadVar t (← asAddr (a.tmps.getD ad Cm)):Sem (List Value)).run P w= .ok xs w∧VRs g vs xs
 |[],rs,vs,hc,hv,_=>by
  simp only [Wq,AR] at hc;subst hc
  simp only [mL,AR] at hv;subst hv
  exact ⟨[],by simp,.nil⟩
 | .tmp n::l,rs,vs,hc,hv,hn=>by
  simp only [Wq,AT,AF] at hc
  obtain ⟨rs',hrs,he⟩:=hc
  cases he
  simp only [mL,AT,AF,rvA] at hv
  obtain ⟨v,hv1,vs',hvs,he⟩:=hv
  cases he;cases hv1
  simp only [Bz,AM] at hn
  obtain ⟨xs,hx,hr⟩:=Wc hf l rs' vs' hrs hvs hn.2
  exact ⟨a.tmps.getD n Cm::xs,by simp only [List.mapM_cons,Sem.run_bind,Sem.run_pure,Result.andThen_ok,hx],.cons ((hf.tm n).vr hn.1) hr⟩
 | .cell n t::l,rs,vs,hc,hv,hn=>by
  simp only [Wq,AT,AF] at hc
  obtain ⟨kk,hkk,rs',hrs,he⟩:=hc
  cases he
  simp only [mL,AT,AF,rvA] at hv
  obtain ⟨v,hv1,vs',hvs,he⟩:=hv
  cases he
  simp only [Bz,AM] at hn
  obtain ⟨xs,hx,hr⟩:=Wc hf l rs' vs' hrs hvs hn.2
  obtain ⟨x,hld,hvr⟩:=iA (P:=P) hkk hf (hf.tm n) hv1
  have hasaddr:(do loadVar t (← asAddr (a.tmps.getD n Cm)):Sem Value).run P w= .ok x w:=by
   have hs:=hf.tm n
   generalize a.tmps.getD n Cm=pn at hs hld
   cases hp:pn<;>simp only [hp,Instr.loadAt,Instr.sureAddr] at hld<;>try (simp at hld;done)
   rename_i ad
   cases ad with
   |none=>simp at hld
   |some ad=>simpa [asAddr,Instr.sureAddr] using hld
  exact ⟨x::xs,by simp only [Sem.run_bind] at hasaddr;simp only [List.mapM_cons,Sem.run_bind,hasaddr,hx,Result.andThen_ok,Sem.run_pure],.cons hvr hr⟩
theorem cV {fn:Func} {rs:List RV} (hc:Wq P fn.results.toList=some rs) (hf:B4 base g lam Pr N F L σ a w0 w) {v:AV} (hv:eX F L σ rs=some v):
 ∃x,(results fn a.tmps).run P w= .ok x w∧VR g v x:=by
 simp only [eX,AF] at hv
 obtain ⟨vs,hvs,hv⟩:=hv
 split at hv
 case isFalse=>cases hv
 rename_i hn
 obtain ⟨xs,hx,hr⟩:=Wc (P:=P) hf _ rs vs hc hvs hn
 have hrun:(results fn a.tmps).run P w= .ok (if h:xs.toArray.size=1 then xs.toArray[0] else .tuple xs.toArray) w:=by
  unfold results
  rw [Array.mapM_eq_mapM_toList]
  simp only [Sem.run_bind,Sem.run_map,Sem.run_pure]
  exact congrArg (fun r:Result (List Value)=>(r.andThen fun a w'=>Result.ok a.toArray w').andThen fun (a:Array Value) w'=>Result.ok (if h:a.size=1 then a[0] else Value.tuple a) w') hx
 have hlen:=hr.length
 cases vs with
 |nil=>
  cases hv
  cases hr
  exact ⟨_,hrun,by simpa using VR.tup (g:=g) (cs:=[]) (vs:=[]) rfl (by simp)⟩
 |cons v1 vs=>
  cases vs with
  |nil=>
   cases hv
   cases hr with|cons h1 h2=>cases h2;exact ⟨_,hrun,by simpa using h1⟩
  |cons v2 vs=>
   cases hv
   refine ⟨_,hrun,?_⟩
   have hne:¬xs.toArray.size=1:=by simp at hlen ⊢;omega
   rw [dif_neg hne]
   exact .tup hr.length hr.idx
theorem Run.fin {σ2:AN} (hg:Good cx) {v v':AV} (hv:eX F L σ cx.rs=some v) (hw:∀g x,VR g v x→VR g v' x) (hσ:σ2.le σ) (hK:K v' σ2):Run cx K [] F L σ:=by
 intro items base g lam Pr a w0 w b cs hi hf hb hk
 cases hi
 obtain ⟨x,hx,hvr⟩:=cV hg.2 hf hv
 refine ⟨x,w,_,.one step_end,hb,⟨rfl,hf.df,hk,cx.fn,by show cx.P.funcs[b.fn]?=_;rw [hb];exact hg.1,hx⟩,v',g,σ2,hw g x hvr,?_,Gh.le_refl g,KP.refl Pr w,hK⟩
 exact (hf.rel.less hσ).grow (A8 _) (fun _ _ _=>rfl) (Below.refl _ _) (fun b hp=>⟨(hf.rel.pr b (.inl hp)).1,.inl (.inl hp)⟩)
theorem Run.ret {σ2:AN} (hg:Good cx) {v v':AV} (hv:eX F L σ cx.rs=some v) (hw:∀g x,VR g v x→VR g v' x) (hσ:σ2.le σ) (hK:K v' σ2):Run cx K (.code .ret::k) F L σ:=by
 intro items base g lam Pr a w0 w b cs hi hf hb hk
 obtain ⟨p,ys,rfl,hp,hys⟩:=hi.code
 cases hp
 obtain ⟨x,hx,hvr⟩:=cV hg.2 hf hv
 refine ⟨x,w,_,.one step_ret,hb,⟨rfl,hf.df,hk,cx.fn,by show cx.P.funcs[b.fn]?=_;rw [hb];exact hg.1,hx⟩,v',g,σ2,hw g x hvr,?_,Gh.le_refl g,KP.refl Pr w,hK⟩
 exact (hf.rel.less hσ).grow (A8 _) (fun _ _ _=>rfl) (Below.refl _ _) (fun b hp=>⟨(hf.rel.pr b (.inl hp)).1,.inl (.inl hp)⟩)
def Ar (args:List AV):Fm:=fun s=>args.getD s .undef
theorem AW {args:List AV} {c:C} {code:Code} (hg:Good cx) (hb:cx.fn.body=some code) (hN:cx.fn.ntmps=cx.N) (hl:args.length≤cx.N) (hc:RC cx c code)
 (h:Run cx K [.code c] (Ar args) (fun _=>none) σ):AQ cx.P cx.f args σ K:=by
 intro base g Pr w0 w vs hrel hvs cs
 let b:Frame:= { (default:Frame) with fn:=cx.f,kind:= .normal}
 have henter:Frame.enter cx.P cx.f vs.toArray .normal=b.at { tmps:=vs.toArray++En (cx.fn.ntmps - vs.toArray.size) Cm,defers:=[]} [.code code]:=by
  simp [Frame.enter,Frame.at,hg.1,hb,b]
 have hvl:=hvs.length
 have hf:B4 base g (fun _=>none) Pr cx.N (Ar args) (fun _=>none) σ { tmps:=vs.toArray++En (cx.fn.ntmps - vs.toArray.size) Cm,defers:=[]} w0 w:=by
  refine ⟨fun s=>?_,by simp;omega,rfl,fun k cs hk=>(by cases hk),fun k k' b hk=>(by cases hk),fun k b hk=>(by cases hk),?_⟩
  · simp only [Ar,VA]
    cases hs:args[s]? with
    |none=>exact VR.undef
    |some av=>
     obtain ⟨v,hv,hr⟩:=hvs.at s av hs
     have hlt:=(Ad.1 hv).1
     have:(vs.toArray++En (cx.fn.ntmps - vs.toArray.size) Cm).getD s Cm=v:=by
      simp only [Cl]
      rw [Array.getElem?_append_left (by simpa using hlt)]
      simp [hv]
     show SV g _ av ((vs.toArray++En (cx.fn.ntmps - vs.toArray.size) Cm).getD s Cm)
     rw [this];exact SV.Ec hr
  · exact hrel.grow (A8 _) (fun _ _ _=>rfl) (Below.refl _ _) (fun b hp=>by
     rcases hp with hp|⟨k,hk⟩
     · exact ⟨(hrel.pr b hp).1,.inl hp⟩
     · cases hk)
 obtain ⟨v,w',fr,hs,hfn,hlv,av,g',σ',h1,h2,h3,h4,h5⟩:=h [.code code] base g _ Pr _ w0 w b cs (.Mh hc .nil) hf rfl rfl
 rw [← henter] at hs
 exact ⟨.returned v,w',fr,⟨v,av,g',σ',rfl,h1,h2,h3,h4,h5⟩,hs,hfn,hlv⟩
end Go.Ab
namespace Go.Ab
open Go.RowKit
variable {P:Program} {K:CY} {F:Fm} {L:Lm} {σ:AN} {r:List Q}
def E:Lm:=fun _=>none
def UR (k:Nat) (o:Option (List AV)) (L:Lm):Lm:=fun s=>if s=k then o else L s
theorem IX (d:Nat) (v:AV) (F:Fm) (s:Nat):put d v F s=if s=d then v else F s:=rfl
theorem vU (d:Nat) (cs:List AV) (L:Lm) (s:Nat):BZ d cs L s=if s=d then some cs else L s:=rfl
theorem ADA (s:Nat):E s=none:=rfl
theorem ADF (s:Nat):U s= .undef:=rfl
theorem uA (F:Fm):WR [] F=U:=rfl
theorem qU (k:Nat) (ks:List Nat) (F:Fm):WR (k::ks) F=put k (F k) (WR ks F):=by
 funext s
 simp only [WR,put,CW]
 by_cases h:s=k
 · subst h;simp
 · simp [h]
theorem qT (L:Lm):Sb [] L=E:=rfl
theorem lI (k:Nat) (ks:List Nat) (L:Lm):Sb (k::ks) L=UR k (L k) (Sb ks L):=by
 funext s
 simp only [Sb,UR,CW]
 by_cases h:s=k
 · subst h;simp
 · simp [h]
theorem mF (k:Nat) (cs:List AV) (L:Lm):UR k (some cs) L=BZ k cs L:=rfl
theorem y7 (k:Nat):UR k none E=E:=by funext s;simp [UR,E]
theorem mE (k j:Nat) (cs:List AV) (L:Lm):UR k none (BZ j cs L)=if j=k then UR k none L else BZ j cs (UR k none L):=by
 funext s
 by_cases h:j=k
 · subst h
   simp only [if_true,UR,BZ]
   by_cases h2:s=j<;>simp [h2]
 · simp only [h,if_false,UR,BZ]
   by_cases h2:s=k
   · have h3:s≠j:=by omega
     rw [if_pos h2,if_neg h3,if_pos h2]
   · rw [if_neg h2]
     by_cases h3:s=j
     · rw [if_pos h3,if_pos h3]
     · rw [if_neg h3,if_neg h3,if_neg h2]
theorem rP (k:Nat) (cs ds:List AV) (L:Lm):BZ k cs (BZ k ds L)=BZ k cs L:=by
 funext s;simp only [BZ];split<;>rfl
theorem AEQ (F:Fm) (n:Nat):xv F (.t n)=F n:=rfl
theorem AEP (F:Fm) (v:AV):xv F (.c v)=v:=rfl
theorem Ax (a:AV):Ar [a]=put 0 a U:=by
 funext s;simp only [Ar,put,U];cases s<;>simp
theorem BP (a b:AV):Ar [a,b]=put 0 a (put 1 b U):=by
 funext s;simp only [Ar,put,U]
 match s with|0=>rfl|1=>rfl|n+2=>simp
theorem Hm (a b c:AV):Ar [a,b,c]=put 0 a (put 1 b (put 2 c U)):=by
 funext s;simp only [Ar,put,U]
 match s with|0=>rfl|1=>rfl|2=>rfl|n+3=>simp
theorem YG (a b c d:AV):Ar [a,b,c,d]=put 0 a (put 1 b (put 2 c (put 3 d U))):=by
 funext s;simp only [Ar,put,U]
 match s with|0=>rfl|1=>rfl|2=>rfl|3=>rfl|n+4=>simp
theorem y6 (k:Nat):DR k U=U:=by funext s;simp [DR,U,AV.BJ]
theorem rO (k d:Nat) (v:AV) (F:Fm):DR k (put d v F)=put d (if v.BJ k then .undef else v) (DR k F):=by
 funext s
 simp only [DR,put]
 by_cases h:s=d<;>simp [h]
theorem AB4 (k:Nat) (x:DV):(AV.d x).BJ k=false:=rfl
theorem q9 (k:Nat):AV.AX.BJ k=false:=rfl
theorem uU (k t e s:Nat) (r:List (List DV)):(AV.own t e s r).BJ k=false:=rfl
theorem q6 (k:Nat) (r:List (List DV)):(AV.clip r).BJ k=false:=rfl
theorem uT (k:Nat) (r:List AV):(AV.agg r).BJ k=false:=rfl
theorem yO (k j o:Nat):(AV.lp j o).BJ k=(j==k):=rfl
theorem yN (k j o:Nat):(AV.gp j o).BJ k=false:=rfl
theorem yL (k o:Nat) (r:List DV):(AV.ep r o).BJ k=false:=rfl
theorem q8 (k:Nat):AV.FP.BJ k=false:=rfl
theorem yP (k i n s e:Nat):(AV.ms i n s e).BJ k=false:=rfl
theorem yQ (k:Nat) (i o n s e:Nat):(AV.mv i o n s e).BJ k=false:=rfl
theorem yK (k:Nat) (t e:Nat) (s:List UInt8):(AV.bp t e s).BJ k=false:=rfl
theorem q7 (k:Nat):AV.PU.BJ k=false:=rfl
theorem yM (k:Nat) (f:FuncId) (x y:List AV):(AV.fn f x y).BJ k=false:=rfl
theorem uV (k:Nat) (x:List AV):(AV.tup x).BJ k=false:=rfl
theorem lM (k:Nat):AV.undef.BJ k=false:=rfl
theorem xB (x:DV):AV.cells (AV.d x)=[(AV.d x)]:=rfl
theorem kK:AV.cells AV.AX=[AV.AX]:=rfl
theorem pQ (t e s:Nat) (r:List (List DV)):AV.cells (AV.own t e s r)=[(AV.own t e s r)]:=rfl
theorem kH (r:List (List DV)):AV.cells (AV.clip r)=[(AV.clip r)]:=rfl
theorem pP (r:List AV):AV.cells (AV.agg r)=r:=rfl
theorem tD (j o:Nat):AV.cells (AV.lp j o)=[(AV.lp j o)]:=rfl
theorem tC (j o:Nat):AV.cells (AV.gp j o)=[(AV.gp j o)]:=rfl
theorem tA (r:List DV) (o:Nat):AV.cells (AV.ep r o)=[(AV.ep r o)]:=rfl
theorem kJ:AV.cells AV.FP=[AV.FP]:=rfl
theorem tE (i n s e:Nat):AV.cells (AV.ms i n s e)=[(AV.ms i n s e)]:=rfl
theorem tF (i o n s e:Nat):AV.cells (AV.mv i o n s e)=[AV.mv i o n s e]:=rfl
theorem s9 (t e:Nat) (s:List UInt8):AV.cells (AV.bp t e s)=[AV.bp t e s]:=rfl
theorem kI:AV.cells AV.PU=[AV.PU]:=rfl
theorem tB (f:FuncId) (x y:List AV):AV.cells (AV.fn f x y)=[(AV.fn f x y)]:=rfl
theorem pR (x:List AV):AV.cells (AV.tup x)=[(AV.tup x)]:=rfl
theorem gF:AV.cells AV.undef=[AV.undef]:=rfl
theorem tX (x:DV):AV.CU (AV.d x)=true:=rfl
theorem gY:AV.CU AV.AX=true:=rfl
theorem lF (t e s:Nat) (r:List (List DV)):AV.CU (AV.own t e s r)=true:=rfl
theorem gU (r:List (List DV)):AV.CU (AV.clip r)=true:=rfl
theorem lE (r:List AV):AV.CU (AV.agg r)=false:=rfl
theorem qN (j o:Nat):AV.CU (AV.lp j o)=false:=rfl
theorem qM (j o:Nat):AV.CU (AV.gp j o)=true:=rfl
theorem qK (r:List DV) (o:Nat):AV.CU (AV.ep r o)=true:=rfl
theorem gX:AV.CU AV.FP=true:=rfl
theorem qO (i n s e:Nat):AV.CU (AV.ms i n s e)=true:=rfl
theorem qP (i o n s e:Nat):AV.CU (AV.mv i o n s e)=true:=rfl
theorem qJ (t e:Nat) (s:List UInt8):AV.CU (AV.bp t e s)=true:=rfl
theorem gW:AV.CU AV.PU=true:=rfl
theorem qL (f:FuncId) (x y:List AV):AV.CU (AV.fn f x y)=true:=rfl
theorem lG (x:List AV):AV.CU (AV.tup x)=false:=rfl
theorem eA:AV.CU AV.undef=false:=rfl
theorem K7 (x:DV):AV.As (AV.d x)=true:=rfl
theorem rF:AV.As AV.AX=true:=rfl
theorem uZ (t e s:Nat) (r:List (List DV)):AV.As (AV.own t e s r)=true:=rfl
theorem rC (r:List (List DV)):AV.As (AV.clip r)=true:=rfl
theorem Fo (r:List AV):AV.As (AV.agg r)=true:=rfl
theorem yU (j o:Nat):AV.As (AV.lp j o)=false:=rfl
theorem J9 (j o:Nat):AV.As (AV.gp j o)=true:=rfl
theorem yS (r:List DV) (o:Nat):AV.As (AV.ep r o)=true:=rfl
theorem rE:AV.As AV.FP=true:=rfl
theorem yV (i n s e:Nat):AV.As (AV.ms i n s e)=true:=rfl
theorem yW (i o n s e:Nat):AV.As (AV.mv i o n s e)=true:=rfl
theorem yR (t e:Nat) (s:List UInt8):AV.As (AV.bp t e s)=true:=rfl
theorem rD:AV.As AV.PU=true:=rfl
theorem yT (f:FuncId) (x y:List AV):AV.As (AV.fn f x y)=true:=rfl
theorem u6 (x:List AV):AV.As (AV.tup x)=true:=rfl
theorem lR:AV.As AV.undef=true:=rfl
theorem AEH (x:DV):AV.dv (AV.d x)=some x:=rfl
theorem xM:AV.dv AV.AX=some (.sl []):=rfl
theorem ABL (t e s:Nat) (r:List (List DV)):AV.dv (AV.own t e s r)=some (.sl r):=rfl
theorem xJ (r:List (List DV)):AV.dv (AV.clip r)=some (.sl r):=rfl
theorem ABK (r:List AV):AV.dv (AV.agg r)=none:=rfl
theorem ADL (j o:Nat):AV.dv (AV.lp j o)=none:=rfl
theorem ADK (j o:Nat):AV.dv (AV.gp j o)=none:=rfl
theorem ADI (r:List DV) (o:Nat):AV.dv (AV.ep r o)=none:=rfl
theorem xL:AV.dv AV.FP=some .FP:=rfl
theorem ADN (i o n s e:Nat):AV.dv (AV.mv i o n s e)=none:=rfl
theorem ADH (t e:Nat) (s:List UInt8):AV.dv (AV.bp t e s)=none:=rfl
theorem xK:AV.dv AV.PU=none:=rfl
theorem ADM (i n s e:Nat):AV.dv (AV.ms i n s e)=none:=rfl
theorem ADJ (f:FuncId) (x y:List AV):AV.dv (AV.fn f x y)=none:=rfl
theorem ABM (x:List AV):AV.dv (AV.tup x)=none:=rfl
theorem tP:AV.dv AV.undef=none:=rfl
theorem rS:AV.rows AV.AX=some []:=rfl
theorem v7 (t e s:Nat) (r:List (List DV)):AV.rows (AV.own t e s r)=some r:=rfl
theorem rR (r:List (List DV)):AV.rows (AV.clip r)=some r:=rfl
theorem ACG (r:List (List DV)):AV.rows (AV.d (.sl r))=some r:=rfl
theorem qX:Tg AV.AX=some (.d (.int .i64 0)):=rfl
theorem uJ (t e s:Nat) (r:List (List DV)):Tg (AV.own t e s r)=some (.d (.int .i64 r.length)):=rfl
theorem qW (r:List (List DV)):Tg (AV.clip r)=some (.d (.int .i64 r.length)):=rfl
theorem yB (i n s e:Nat):Tg (AV.ms i n s e)=some (.d (.int .i64 n)):=rfl
theorem yC (i o n s e:Nat):Tg (AV.mv i o n s e)=some (.d (.int .i64 n)):=rfl
theorem ABZ (r:List (List DV)):Tg (AV.d (.sl r))=some (.d (.int .i64 r.length)):=rfl
theorem AC4:BR P K [] F L σ=K F L σ:=rfl
theorem AC9 (b:Bool) (q:Q) (t:QT):XT P K b (.one q t) F L σ=BR P (XT P K false t) [q] F L σ:=by cases b<;>rfl
theorem AC8 (b:Bool) (q:Q) (t s:QT):XT P K b (.alt q t s) F L σ=(BR P (XT P K false t) [q] F L σ∧XT P K true s F L σ):=by cases b<;>rfl
theorem AAC:XT P K false .done F L σ=K F L σ:=rfl
theorem AAD:XT P K true .done F L σ=True:=rfl
theorem wW (v:AV) (d:Nat):XPv (some v) (some d) K F L σ=K (put d v F) L σ:=rfl
theorem AEC (d:Nat) (x:X):BR P K (⟨some d,.mv x,none⟩::r) F L σ=BR P K r (put d (xv F x) F) L σ:=rfl
theorem z6 (d:Option Nat) (x y z:X):BR P K (⟨d,.pick x y z,none⟩::r) F L σ=XPv (iN (xv F x) (xv F y) (xv F z)) d (BR P K r) F L σ:=rfl
theorem ACX (d:Option Nat) (x:X) (o:Nat):BR P K (⟨d,.fld x o,none⟩::r) F L σ=XPv (kV (xv F x) o) d (BR P K r) F L σ:=rfl
theorem AEA (d:Option Nat) (x:X) (n:Option Nat):BR P K (⟨d,.ld x n,none⟩::r) F L σ=XPv (ldA L σ (xv F x) n) d (BR P K r) F L σ:=rfl
theorem AD9 (d:Option Nat) (x y:X) (n:Nat):BR P K (⟨d,.ix x y n,none⟩::r) F L σ=XPv (ixA (xv F x) (xv F y) n) d (BR P K r) F L σ:=rfl
theorem z8 (d:Option Nat) (x y:X):BR P K (⟨d,.Oh x y,none⟩::r) F L σ=XPv (Zf (xv F x) (xv F y)) d (BR P K r) F L σ:=rfl
theorem ACZ (d:Option Nat) (x:X):BR P K (⟨d,.len x,none⟩::r) F L σ=XPv (Tg (xv F x)) d (BR P K r) F L σ:=rfl
theorem AAA (d:Option Nat) (x:X):BR P K (⟨d,.Hp x,none⟩::r) F L σ=XPv (cW (xv F x)) d (BR P K r) F L σ:=rfl
theorem ACS (d:Option Nat) (op:BinOp) (x y:X):BR P K (⟨d,.bin op x y,none⟩::r) F L σ=XPv (pI op (xv F x) (xv F y)) d (BR P K r) F L σ:=rfl
theorem zV (d:Option Nat) (op:BinOp) (x y:X):BR P K (⟨d,.sX op x y,none⟩::r) F L σ=XPv (bQ op (xv F x) (xv F y)) d (BR P K r) F L σ:=rfl
theorem AEE (d:Option Nat) (op:UnOp) (x:X):BR P K (⟨d,.un op x,none⟩::r) F L σ=XPv (unA op (xv F x)) d (BR P K r) F L σ:=rfl
theorem z1 (d:Option Nat) (k:IntKind) (x:X):BR P K (⟨d,.conv k x,none⟩::r) F L σ=XPv (bY k (xv F x)) d (BR P K r) F L σ:=rfl
theorem ACT (d:Option Nat) (z:List AV) (ps:List (Nat×Nat×X)):BR P K (⟨d,.bld z ps,none⟩::r) F L σ=XPv ((Ii z F ps).map .agg) d (BR P K r) F L σ:=rfl
theorem ACV (d:Option Nat) (s n:Nat) (z:List AV) (ps:List (Nat×Nat×X)):BR P K (⟨d,.bsl s n z ps,none⟩::r) F L σ=XPv (((Ii z F ps).bind dvs).map fun l=>.d (.sl (chunk s n l))) d (BR P K r) F L σ:=rfl
theorem AC0 (d:Option Nat) (f:FuncId) (x y:List X):BR P K (⟨d,.mkf f x y,none⟩::r) F L σ=XPv (if (xvs F x++xvs F y).all AV.As then some (.fn f (xvs F x) (xvs F y)) else none) d (BR P K r) F L σ:=rfl
theorem ACW (d:Option Nat) (x:X) (i:Nat):BR P K (⟨d,.ext x i,none⟩::r) F L σ=XPv (pX (xv F x) i) d (BR P K r) F L σ:=rfl
theorem AC3 (d:Option Nat) (x:X):BR P K (⟨d,.nck x,none⟩::r) F L σ=XPv (uX (xv F x)) d (BR P K r) F L σ:=rfl
theorem AEB (d:Option Nat) (b:Bool) (x y:X):BR P K (⟨d,.mm b x y,none⟩::r) F L σ=XPv (mmA b (xv F x) (xv F y)) d (BR P K r) F L σ:=rfl
theorem ACU (d:Nat) (x:X):BR P K (⟨some d,.box x false,none⟩::r) F L σ=(Am (xv F x).cells=true∧BR P K r (put d (.lp d 0) (DR d F)) (BZ d (xv F x).cells L) σ):=rfl
theorem AD2 (d:Nat) (z:List AV):BR P K (⟨some d,.al z false,none⟩::r) F L σ=(Am z=true∧BR P K r (put d (.lp d 0) (DR d F)) (BZ d z L) σ):=rfl
theorem zW (d:Nat) (x:X):BR P K (⟨some d,.box x true,none⟩::r) F L σ=(Am (xv F x).cells=true∧∀i,σ.blk i=none→BR P K r (put d (.gp i 0) F) L (σ.AK i (xv F x).cells)):=rfl
theorem ACQ (d:Nat) (z:List AV):BR P K (⟨some d,.al z true,none⟩::r) F L σ=(Am z=true∧∀i,σ.blk i=none→BR P K r (put d (.gp i 0) F) L (σ.AK i z)):=rfl
def AAZ (K:CY) (F:Fm):Option (Lm×AN)→Prop
 |some (L',σ')=>K F L' σ'
 |none=>False
theorem wX (F:Fm) (L':Lm) (σ':AN):AAZ K F (some (L',σ'))=K F L' σ':=rfl
theorem AED (x v:X) (n:Nat):BR P K (⟨none,.st x v n,none⟩::r) F L σ=(Am (xv F v).cells=true∧(xv F v).cells.length=n∧AAZ (BR P K r) F (stA L σ (xv F v).cells (xv F x))):=by
 show XSt _ _ _ _ _ _ _ _=_
 unfold XSt AAZ
 simp only [true_and]
 cases stA L σ (xv F v).cells (xv F x)<;>rfl
theorem AD5 (d:Option Nat) (o:O) (s:Nat) (want:Bool):BR P K (⟨d,o,some (s,want)⟩::r) F L σ=XG (gdV want (F s)) (BR P K (⟨d,o,none⟩::r) F L σ) (BR P K r (At d (.tup []) F) L σ):=rfl
theorem AD8 (d:Option Nat) (o:O) (s:Nat) (want:Bool) (h:gdV want (F s)=some true):BR P K (⟨d,o,some (s,want)⟩::r) F L σ=BR P K (⟨d,o,none⟩::r) F L σ:=by rw [AD5,h];rfl
theorem AD6 (d:Option Nat) (o:O) (s:Nat) (want:Bool) (h:gdV want (F s)=some false):BR P K (⟨d,o,some (s,want)⟩::r) F L σ=BR P K r (At d (.tup []) F) L σ:=by rw [AD5,h];rfl
theorem ADO (want b:Bool):gdV want (.d (.bool b))=some (b==want):=rfl
theorem ADP (want:Bool):gdV want (.tup [])=some false:=rfl
theorem rQ (d:Nat) (v:AV) (F:Fm):At (some d) v F=put d v F:=rfl
theorem zZ (d:Option Nat) (f:FuncId) (args:List X):BR P K (⟨d,.call f args,none⟩::r) F L σ=AI P f (xvs F args) d (BR P K r) F L σ:=rfl
theorem wV (d:Option Nat) (f:FuncId) (args:List X):BR P K (⟨d,.XE f args,none⟩::r) F L σ=Xz P f (xvs F args) d (BR P K r) F L σ:=rfl
theorem ACR (d:Option Nat) (e s b:Nat) (x y:X):BR P K (⟨d,.app e s b x y,none⟩::r) F L σ=JH e s b (xv F x) (xv F y) d (BR P K r) F L σ:=rfl
def AAT (P:Program) (x:AV) (args:List AV) (dst:Option Nat) (K:CY) (F:Fm) (L:Lm) (σ:AN):Prop:=
 ∃f first caps,x= .fn f first caps∧Aw P f=true∧AI P f (first++args++caps) dst K F L σ
theorem wU (d:Option Nat) (x:X) (args:List X):BR P K (⟨d,.E1 x args,none⟩::r) F L σ=AAT P (xv F x) (xvs F args) d (BR P K r) F L σ:=rfl
theorem AC2 (d:Option Nat) (e s b:Nat) (z:List AV) (x y:X):BR P K (⟨d,.msl e s b z x y,none⟩::r) F L σ=sK e s b z (xv F x) (xv F y) d (BR P K r) F L σ:=rfl
theorem zU (d:Option Nat) (e s b:Nat) (x y:X):BR P K (⟨d,.YF e s b x y,none⟩::r) F L σ=Rt e s b (xv F x) (xv F y) d (BR P K r) F L σ:=rfl
theorem AC7 (d:Option Nat) (x y:X):BR P K (⟨d,.trn x y,none⟩::r) F L σ=AA0 (xv F x) (xv F y) d (BR P K r) F L σ:=rfl
theorem zY (d:Option Nat) (e s n:Nat) (z:List AV) (ps:List (Nat×Nat×X)):BR P K (⟨d,.Mw e s n z ps,none⟩::r) F L σ=Ia e s n (Ii z F ps) d (BR P K r) F L σ:=rfl
theorem ACY (d:Option Nat) (x:X) (n:Option Nat):BR P K (⟨d,.ldl x n,none⟩::r) F L σ=XPv (eH L (xv F x) n) d (BR P K r) F L σ:=rfl
theorem AD4 (d:Option Nat) (x:X) (o:Nat) (n:Option Nat):BR P K (⟨d,.fd x o n,none⟩::r) F L σ=XPv (fdA (xv F x) o n) d (BR P K r) F L σ:=rfl
theorem AC6 (d:Option Nat) (x:X) (a b:Option X):BR P K (⟨d,.ssl x a b,none⟩::r) F L σ=XPv (Sz (xv F x) (a.map (xv F)) (b.map (xv F))) d (BR P K r) F L σ:=rfl
theorem AC5 (d:Option Nat) (x:X) (a b c:Option X) (n:Nat):BR P K (⟨d,.sls x a b c n,none⟩::r) F L σ=XPv (rT (xv F x) (a.map (xv F)) (b.map (xv F)) (c.map (xv F)) n) d (BR P K r) F L σ:=rfl
theorem z7 (d:Option Nat) (ne:Bool) (x:X):BR P K (⟨d,.mA ne x,none⟩::r) F L σ=XPv (cQ ne (xv F x)) d (BR P K r) F L σ:=rfl
theorem AAB (d:Option Nat) (ne:Bool) (n:Nat) (x y:X):BR P K (⟨d,.mR ne n x y,none⟩::r) F L σ=XPv (cX ne n (xv F x) (xv F y)) d (BR P K r) F L σ:=rfl
theorem AC1 (d:Option Nat) (b:Bool) (x y z:X):BR P K (⟨d,.mm3 b x y z,none⟩::r) F L σ=XPv ((mmA b (xv F x) (xv F y)).bind fun v=>mmA b v (xv F z)) d (BR P K r) F L σ:=rfl
theorem zX (d:Option Nat) (x:X):BR P K (⟨d,.sY x,none⟩::r) F L σ=XPv ((dvs (xv F x).cells).map fun ds=>.d (.ptr ds)) d (BR P K r) F L σ:=rfl
theorem AD3 (d:Option Nat) (k:EK) (xs:List X):BR P K (⟨d,.ex k xs,none⟩::r) F L σ=XEx k (xvs F xs) d (BR P K r) F L σ:=rfl
theorem zS (d:Option Nat) (args:List AV):XEx .cap args d K F L σ=XPv (exP .cap args) d K F L σ:=rfl
theorem zR (d:Option Nat) (args:List AV):XEx .b2s args d K F L σ=XPv (exP .b2s args) d K F L σ:=rfl
theorem zT (d:Option Nat) (args:List AV):XEx .usd args d K F L σ=XPv (exP .usd args) d K F L σ:=rfl
theorem zQ (d:Nat) (t:Nat) (z:List AV):XEx (.alt t z) [] (some d) K F L σ=(Am z=true∧∀i,(σ.blk i=none∧σ.bt i=none)→K (put d (.gp i 0) F) L ((σ.AK i z).Ge i (z.length,t))):=by
 simp only [XEx,EK.pure,AU,if_false,Lh,true_and,ExR,At]
theorem XEx.gA {d:Nat} {t n:Nat} {v:AV} (hn:v.As=true) (h1:Am v.cells=true) (h2:v.cells.length=n) (h:∀i,(σ.blk i=none∧σ.bt i=none)→K (put d (.gp i 0) F) L ((σ.AK i v.cells).Ge i (n,t))):XEx (.gA t n) [v] (some d) K F L σ:=by
 refine ⟨by simp [hn],?_⟩
 exact ⟨⟨h1,h2⟩,h⟩
theorem XEx.jK {d:Nat} {ne b:Bool} {v:AV} (hn:v.As=true) (hv:lP v=some b) (h:K (put d (.d (.bool (b != ne))) F) L σ):XEx (.jK ne) [v] (some d) K F L σ:=by
 refine ⟨by simp [hn],?_⟩
 show (match lP v with|some b=>_|none=>_)
 rw [hv];exact h
theorem XEx.apps {d:Option Nat} {e:Nat} {s:AV} {x:List UInt8} {rows:List (List DV)} {σ1:AN} (hn:s.As=true) (ha:Pv σ e 1 s=some (rows,σ1)) (hl:rows.length+x.length≤140737488355328)
 (h:∀t,σ.tok t=false→K (At d (.own t e 1 (rows++BI x)) F) L (σ1.Da t)):XEx (.apps e) [s,.d (.str x)] d K F L σ:=
 ⟨by rw [Bz,hn];rfl,rows,σ1,ha,hl,h⟩
theorem XEx.pD {d:Option Nat} {e size bytes:Nat} {z:List AV} {k:IntKind} {n:Nat} (h0:0 < n) (hb:bytes≤10000) (hn:n≤1000000000)
 (h:∀j,σ.blk j=none→K (At d (.ms j n size e) F) L (σ.AK j (Ak n z).flatten)):XEx (.pD e size bytes z) [.AX,.d (.int k n)] d K F L σ:=by
 refine ⟨rfl,by omega,?_,by omega,?_⟩
 · have h1:n * bytes≤1000000000 * 10000:=Om hn hb
   have h2:((n * bytes:Nat):Int)≤((1000000000 * 10000:Nat):Int):=Int.ofNat_le.2 h1
   rw [Int.natCast_mul] at h2
   exact Int.le_trans h2 (by decide)
 · simpa using h
theorem XEx.jV {d:Option Nat} {e t:Nat} {s:List UInt8} {n:Int} (hl:n=s.length) (h0:s≠[]) (ht:σ.tok t=true) (h:K (At d (.d (.str s)) F) L (σ.FN t)):XEx (.jV e) [.bp t e s,.d (.int .i64 n)] d K F L σ:=
 ⟨rfl,⟨rfl,hl⟩,h0,ht,h⟩
theorem Rt.mk {d:Option Nat} {e size bytes n:Nat} {s x:AV} {cs:List AV} {srows:List (List DV)} {σ1:AN} (h1:Qs σ e size s=some (n,cs,σ1)) (h2:x.rows=some srows)
 (h3:∀r∈srows,r.length=size) (h4:srows≠[]) (h5:n+srows.length≤1000000000) (hb:bytes≤10000)
 (h:∀j,σ.blk j=none→K (At d (.ms j (n+srows.length) size e) F) L (σ1.AK j (cs++Gc srows))):Rt e size bytes s x d K F L σ:=
 ⟨n,cs,σ1,srows,h1,h2,h3,fun e=>absurd e h4,by simp only [maxLen];omega,by
   calc (n+srows.length) * bytes≤1000000000 * 10000:=Om h5 hb
    _≤140737488355328:=by decide,fun _=>h⟩
theorem Ia.mk {d:Option Nat} {e s n:Nat} {cs:List AV} (h:∀j,σ.blk j=none→K (At d (.ms j n s e) F) L (σ.AK j cs)):Ia e s n (some cs) d K F L σ:=⟨cs,rfl,.inl h⟩
theorem Ia.own {d:Option Nat} {e s n:Nat} {cs:List AV} {ds:List DV} (hd:dvs cs=some ds) (hn:0 < n) (h:∀t,σ.tok t=false→K (At d (.own t e s (chunk s n ds)) F) L (σ.Da t)):Ia e s n (some cs) d K F L σ:=⟨cs,rfl,.inr ⟨ds,hd,hn,h⟩⟩
theorem xA (n:Nat):VG n none none=some (0,n):=by simp [VG]
theorem sK.mk {d:Option Nat} {e s b:Nat} {z:List AV} (n:Nat) (hb:b * n≤281474976710656) (hn:n≤9223372036854775807) (h:∀i,σ.blk i=none→K (At d (.ms i n s e) F) L (σ.AK i (Ak n z).flatten)):
 sK e s b z (.d (.int .i64 n)) (.d (.int .i64 n)) d K F L σ:=
 ⟨.i64,.i64,n,rfl,rfl,by omega,by rw [← Int.natCast_mul];omega,by omega,fun i hi=>by simpa using h i hi⟩
theorem AI.mk {d:Option Nat} {f:FuncId} {args:List AV} {Q:AV→AN→Prop} (hn:args.all AV.As=true) (h:AQ P f args σ Q) (hk:∀v σ',Q v σ'→K (At d v F) L σ'):
 AI P f args d K F L σ:=⟨hn,Q,h,hk⟩
theorem Xz.mk {d:Option Nat} {f:FuncId} {args:List AV} {v:AV} (hn:args.all AV.As=true) (h:AQ P f args σ (fun v' σ'=>v'=v∧σ'=σ)) (hk:K (At d v F) L σ) (hv:v.As=true:=by rfl):
 Xz P f args d K F L σ:=⟨hn,v,⟨hv,h⟩,hk⟩
theorem JH.mk {d:Option Nat} {e size bytes:Nat} {s x:AV} {rows srows:List (List DV)} {σ1:AN} (h1:Pv σ e size s=some (rows,σ1)) (h2:x.rows=some srows)
 (h3:∀r∈srows,r.length=size) (h4:rows.length+srows.length≤maxLen) (h5:(rows.length+srows.length) * bytes≤140737488355328)
 (h:∀t,σ.tok t=false→K (At d (.own t e size (rows++srows)) F) L (σ1.Da t)):JH e size bytes s x d K F L σ:= .inl ⟨rows,σ1,srows,h1,h2,h3,h4,h5,h⟩
theorem JH.clip {d:Option Nat} {e size bytes:Nat} {x:AV} {rows srows:List (List DV)} (h2:x.rows=some srows)
 (h3:∀r∈rows,r.length=size) (h3':∀r∈srows,r.length=size) (h4:rows.length+srows.length≤1000000000) (hb:bytes≤10000)
 (h:K (At d (.d (.sl (rows++srows))) F) L σ):JH e size bytes (.clip rows) x d K F L σ:=
 .inr ⟨rows,srows,rfl,h2,h3,h3',by simp only [maxLen];omega,by
  calc (rows.length+srows.length) * bytes≤1000000000 * 10000:=Om h4 hb
   _≤140737488355328:=by decide,h⟩
theorem AQ.args {f:FuncId} {args args':List AV} {Q:AV→AN→Prop} (h:AQ P f args' σ Q) (hw:∀g vs,VRs g args vs→VRs g args' vs):AQ P f args σ Q:=
 fun base g Pr w0 w vs hr hv=>h base g Pr w0 w vs hr (hw g vs hv)
theorem Xy:∀(ops:List Q) {K K':CY} {F:Fm} {L:Lm} {σ:AN},(∀F L σ,K F L σ→K' F L σ)→BR P K ops F L σ→BR P K' ops F L σ
 |[],_,_,_,_,_,hk,hx=>hk _ _ _ hx
 |q::rest,K,K',F,L,σ,hk,hx=>by
  have hx:XG (gd F q.grd) (XO P q.dst (BR P K rest) F L σ q.o) (BR P K rest (At q.dst (.tup []) F) L σ):=hx
  show XG (gd F q.grd) (XO P q.dst (BR P K' rest) F L σ q.o) (BR P K' rest (At q.dst (.tup []) F) L σ)
  cases hc:gd F q.grd with
  |none=>rw [hc] at hx;exact hx.elim
  |some b=>
   rw [hc] at hx
   cases b
   · exact Xy rest hk hx
   · exact j4 (fun F L σ h=>Xy rest hk h) hx
def Cut (live:List Nat) (F0:Fm) (L0:Lm) (σ0:AN):CY:=fun F L σ=>WR live F=F0∧Sb live L=L0∧σ=σ0
theorem Run.ACF {cx:Cx} {KK:AV→AN→Prop} {k:List CI} {ops:List Q} {live:List Nat} (hm:cx.P.follows .mixedOrders=true) (F0:Fm) (L0:Lm) (σ0:AN)
 (h1:BR cx.P (Cut live F0 L0 σ0) ops F L σ) (h2:Run cx KK k F0 L0 σ0):Run cx KK (.code (.reg ops live)::k) F L σ:=
 Run.reg hm (Xy ops (fun F L σ h=>by obtain ⟨e1,e2,e3⟩:=h;show Run cx KK k (WR live F) (Sb live L) σ;rw [e1,e2,e3];exact h2) h1)
theorem mQ {P:Program} {m m1 m':Machine} (h:step P m= .next m1) (hs:Steps P m m') (hne:m≠m'):Steps P m1 m':=by
 obtain ⟨n,hn⟩:=hs
 cases n with
 |zero=>simp only [runN] at hn;cases hn;exact absurd rfl hne
 |succ n=>simp only [runN,h] at hn;exact ⟨n,hn⟩
theorem Run.B3 {cx:Cx} {KK:AV→AN→Prop} {k:List CI} {c:C} (h:Run cx KK (.again c::k) F L σ):Run cx KK (.code (.loop c)::k) F L σ:=by
 intro items base g lam Pr a w0 w b cs hi hf hb hk
 obtain ⟨p,ys,rfl,⟨p1,rfl,h1⟩,hys⟩:=hi.code
 obtain ⟨v,w',fr,hs,hfn,hl,rest⟩:=h (.inLoop p1::ys) base g lam Pr a w0 w b cs (.cons ⟨p1,rfl,h1⟩ hys) hf hb hk
 refine ⟨v,w',fr,.head step_loop (mQ step_inLoop hs fun e=>?_),hfn,hl,rest⟩
 have h2:(lone (b.at a (.inLoop p1::ys)) cs w).gs=(lone fr cs w').gs:=by rw [e]
 simp only [lone,Array.mk.injEq,List.cons.injEq,Goroutine.mk.injEq] at h2
 have h3:(b.at a (.inLoop p1::ys)).mode=fr.mode:=by rw [h2.1.1]
 rw [hl.1] at h3
 cases h3
def bK (v:AV) (A B:Prop):Prop:=
 match v with
 | .d (.bool b)=>(b=true→A)∧(b=false→B)
 |_=>False
theorem zN (b:Bool) (A B:Prop):bK (.d (.bool b)) A B=((b=true→A)∧(b=false→B)):=rfl
theorem zP (A B:Prop):bK (.d (.bool true)) A B=A:=by simp [bK]
theorem zO (A B:Prop):bK (.d (.bool false)) A B=B:=by simp [bK]
theorem Run.AJ {cx:Cx} {KK:AV→AN→Prop} {k:List CI} {x:X} {t e:C} (h:bK (xv F x) (Run cx KK (.code t::k) F L σ) (Run cx KK (.code e::k) F L σ)):Run cx KK (.code (.cond x t e)::k) F L σ:=by
 cases hx:xv F x<;>rw [hx] at h<;>try exact h.elim
 rename_i dv
 cases dv<;>try exact h.elim
 exact Run.cond hx h.1 h.2
mutual
def AV.plain:AV→AV
 | .AX=>.d (.sl [])
 | .FP=>.d .FP
 | .own _ _ _ rows=>.d (.sl rows)
 | .clip rows=>.d (.sl rows)
 | .agg cs=>.agg (AV.Ez cs)
 | .tup vs=>.tup (AV.Ez vs)
 |v=>v
def AV.Ez:List AV→List AV
 |[]=>[]
 |v::l=>AV.plain v::AV.Ez l
end
theorem eR (x:DV):AV.plain (AV.d x)=(AV.d x):=by simp only [AV.plain]
theorem Ul:AV.plain AV.AX= .d (.sl []):=by simp only [AV.plain]
theorem rJ (t e s:Nat) (r:List (List DV)):AV.plain (AV.own t e s r)= .d (.sl r):=by simp only [AV.plain]
theorem lY (r:List (List DV)):AV.plain (AV.clip r)= .d (.sl r):=by simp only [AV.plain]
theorem W3 (r:List AV):AV.plain (AV.agg r)= .agg (AV.Ez r):=by simp only [AV.plain]
theorem vJ (j o:Nat):AV.plain (AV.lp j o)=(AV.lp j o):=by simp only [AV.plain]
theorem vI (j o:Nat):AV.plain (AV.gp j o)=(AV.gp j o):=by simp only [AV.plain]
theorem vH (r:List DV) (o:Nat):AV.plain (AV.ep r o)=(AV.ep r o):=by simp only [AV.plain]
theorem l9:AV.plain AV.FP= .d .FP:=by simp only [AV.plain]
theorem vK (i n s e:Nat):AV.plain (AV.ms i n s e)=(AV.ms i n s e):=by simp only [AV.plain]
theorem vL (i o n s e:Nat):AV.plain (AV.mv i o n s e)=(AV.mv i o n s e):=by simp only [AV.plain]
theorem vG (t e:Nat) (s:List UInt8):AV.plain (AV.bp t e s)=(AV.bp t e s):=by simp only [AV.plain]
theorem lZ:AV.plain AV.PU=AV.PU:=by simp only [AV.plain]
theorem plain_fn (f:FuncId) (x y:List AV):AV.plain (AV.fn f x y)=(AV.fn f x y):=by simp only [AV.plain]
theorem rK (x:List AV):AV.plain (AV.tup x)= .tup (AV.Ez x):=by simp only [AV.plain]
theorem iP:AV.plain AV.undef=AV.undef:=by simp only [AV.plain]
theorem NX:∀(l:List AV) (i:Nat),(AV.Ez l)[i]?=(l[i]?).map AV.plain
 |[],i=>by simp [AV.Ez]
 |v::l,0=>by simp [AV.Ez]
 |v::l,i+1=>by simp [AV.Ez,NX l i]
theorem Um:∀l:List AV,(AV.Ez l).length=l.length
 |[]=>rfl
 |v::l=>by simp [AV.Ez,Um l]
theorem ZK {v:AV} (h:v.CU=true):v.plain.CU=true:=by cases v<;>first|rfl|(cases h;done)
theorem VR.plain {g:Gh} {x:AV} {v:Value} (h:VR g x v):VR g x.plain v:=by
 induction h with
 |d h=>simpa [AV.plain] using VR.d h
 |AX=>exact .d (.nil (C0 _) (fun _=>rfl))
 |own h _ _=>exact .d h
 |clip h=>exact .d h
 |@agg cs vs hl hc _ ih=>
  refine .agg (by rw [Um];exact hl) (fun c hcm=>?_) (fun i c v hci hvi=>?_)
  · obtain ⟨i,hi,rfl⟩:=Cj hcm
    have:=NX cs i
    rw [Ay hi] at this
    cases hcs:cs[i]? with
    |none=>rw [hcs] at this;cases this
    |some c'=>rw [hcs] at this;simp only [Ca,AR] at this;rw [this];exact ZK (hc c' (Aa hcs))
  · rw [NX] at hci
    cases hcs:cs[i]? with
    |none=>rw [hcs] at hci;cases hci
    |some c'=>rw [hcs] at hci;simp only [Ca,AR] at hci;rw [← hci];exact ih i c' v hcs hvi
 |gp h=>simpa [AV.plain] using VR.gp h
 |ep hi hr=>simpa [AV.plain] using VR.ep hi hr
 |FP=>exact .d .FP
 |PU=>simpa [AV.plain] using VR.PU
 |ms h hr hn hm=>simpa [AV.plain] using VR.ms h hr hn hm
 |mv h hr hn hm ho=>simpa [AV.plain] using VR.mv h hr hn hm ho
 |bp h k=>simpa [AV.plain] using VR.bp h k
 |fn hl hl' h h' _ _=>simpa [AV.plain] using VR.fn hl hl' h h'
 |@tup cs vs hl _ ih=>
  refine .tup (by rw [Um];exact hl) (fun i c v hci hvi=>?_)
  rw [NX] at hci
  cases hcs:cs[i]? with
  |none=>rw [hcs] at hci;cases hci
  |some c'=>rw [hcs] at hci;simp only [Ca,AR] at hci;rw [← hci];exact ih i c' v hcs hvi
 |undef=>simpa [AV.plain] using VR.undef
theorem VRs.plain {g:Gh} {xs:List AV} {vs:List Value} (h:VRs g xs vs):VRs g (AV.Ez xs) vs:=by
 induction h with
 |nil=>exact .nil
 |cons h _ ih=>exact .cons h.plain ih
theorem AQ.plain {f:FuncId} {args:List AV} {Q:AV→AN→Prop} (h:AQ P f (AV.Ez args) σ Q):AQ P f args σ Q:=
 fun base g Pr w0 w vs hr hv=>h base g Pr w0 w vs hr hv.plain
def AAY (o:Option AV) (K:AV→AN→Prop) (σ:AN):Prop:=
 match o with
 |some v=>K v σ
 |none=>False
theorem sB (v:AV) (K:AV→AN→Prop) (σ:AN):AAY (some v) K σ=K v σ:=rfl
theorem Run.A9 {cx:Cx} {KK:AV→AN→Prop} {k:List CI} {σ2:AN} (hg:Good cx) (hσ:σ2.le σ) (h:AAY ((eX F L σ cx.rs).map AV.plain) KK σ2):Run cx KK (.code .ret::k) F L σ:=by
 cases hr:eX F L σ cx.rs with
 |none=>rw [hr] at h;exact h.elim
 |some v=>rw [hr] at h;exact Run.ret hg hr (fun _ _ h=>h.plain) hσ h
theorem Run.Fq {cx:Cx} {KK:AV→AN→Prop} {k:List CI} {σ2:AN} (hg:Good cx) (hσ:σ2.le σ) (h:AAY (eX F L σ cx.rs) KK σ2):Run cx KK (.code .ret::k) F L σ:=by
 cases hr:eX F L σ cx.rs with
 |none=>rw [hr] at h;exact h.elim
 |some v=>rw [hr] at h;exact Run.ret hg hr (fun _ _ h=>h) hσ h
theorem AO (σ:AN) (i j:Nat) (cs:List AV):(σ.AK i cs).blk j=if j=i then some cs else σ.blk j:=rfl
theorem A2 (σ:AN) (i:Nat) (cs ds:List AV):(σ.AK i cs).AK i ds=σ.AK i ds:=by
 unfold AN.AK
 congr 1
 funext j
 by_cases h:j=i<;>simp [h]
theorem Iv {σ:AN} {i:Nat} {cs:List AV} (h:σ.blk i=some cs):σ.AK i cs=σ:=by
 unfold AN.AK
 cases σ
 congr 1
 funext j
 split
 · rename_i e;subst e;exact h.symm
 · rfl
theorem GO (σ:AN) (t i:Nat):(σ.Da t).blk i=σ.blk i:=rfl
theorem kS (σ:AN) (t i:Nat):(σ.FN t).blk i=σ.blk i:=rfl
theorem AN.le_trans {a b c:AN} (h:a.le b) (k:b.le c):a.le c:=⟨fun i cs x=>k.blk i cs (h.blk i cs x),fun t x=>k.tok t (h.tok t x),h.gt.trans k.gt,fun i x hx=>k.bt i x (h.bt i x hx)⟩
theorem FQ {σ:AN} {i:Nat} {cs:List AV} (h:σ.blk i=none):σ.le (σ.AK i cs):=
 ⟨fun j ds hj=>by
   have:j≠i:=fun e=>by rw [e,h] at hj;cases hj
   rw [AO,if_neg this];exact hj,fun _ h=>h,rfl,fun _ _ h=>h⟩
structure D8 (σ:AN) (e s:Nat) (rows:List (List DV)) (v:AV) (σ':AN):Prop where
 app:∃σ1,Pv σ' e s v=some (rows,σ1)∧σ.le σ1
 le:σ.le σ'
 plain:v.plain= .d (.sl rows)
 len:Tg v=some (.d (.int .i64 rows.length))
 cell:v.CU=true
 As:v.As=true
 BJ:∀k,v.BJ k=false
 dv:v.dv=some (.sl rows)
 cells:v.cells=[v]
theorem D8.nil (σ:AN) (e s:Nat):D8 σ e s [] .AX σ:=
 ⟨⟨σ,rfl,AN.le_refl σ⟩,AN.le_refl σ,rfl,rfl,rfl,rfl,fun _=>rfl,rfl,rfl⟩
theorem D8.own {σ σ1 σ':AN} {e s t:Nat} {rows:List (List DV)} (hle:σ.le σ1) (hle':σ.le σ') (ht:σ'.tok t=false):D8 σ e s rows (.own t e s rows) (σ1.Da t):=by
 have hnt:σ.tok t=false:=by
  cases h:σ.tok t with
  |false=>rfl
  |true=>rw [hle'.tok t h] at ht;cases ht
 refine ⟨⟨(σ1.Da t).FN t,by simp [Pv,AN.Da],⟨fun i cs h=>hle.blk i cs h,fun t' h=>?_,hle.gt,hle.bt⟩⟩,⟨fun i cs h=>hle.blk i cs h,fun t' h=>?_,hle.gt,hle.bt⟩,rfl,rfl,rfl,rfl,fun _=>rfl,rfl,rfl⟩
 · have hne:t'≠t:=fun e=>by rw [e,hnt] at h;cases h
   simp [AN.FN,AN.Da,hne,hle.tok t' h]
 · have hne:t'≠t:=fun e=>by rw [e,hnt] at h;cases h
   simp [AN.Da,hne,hle.tok t' h]
theorem JH.own {σ0:AN} {d:Option Nat} {e size bytes:Nat} {s x:AV} {rows srows:List (List DV)} (ho:D8 σ0 e size rows s σ) (h2:x.rows=some srows)
 (h3:∀r∈srows,r.length=size) (h4:rows.length+srows.length≤1000000000) (hb:bytes≤10000)
 (h:∀v σ',D8 σ0 e size (rows++srows) v σ'→(∀i,σ'.blk i=σ.blk i)→K (At d v F) L σ'):JH e size bytes s x d K F L σ:=by
 obtain ⟨σ1,ha,hl⟩:=ho.app
 refine JH.mk ha h2 h3 (by simp only [maxLen];omega) ?_ (fun t ht=>h _ _ (D8.own hl ho.le ht) (fun i=>?_))
 · calc (rows.length+srows.length) * bytes≤1000000000 * 10000:=Om h4 hb
    _≤140737488355328:=by decide
 · rw [GO]
   unfold Pv at ha
   split at ha
   · cases ha;rfl
   · split at ha
     · cases ha;rfl
     · cases ha
   · cases ha
variable {cx:Cx} {KK:AV→AN→Prop} {k:List CI}
theorem Run.facts {p:Prop} (hp:∀base g lam Pr a w0 w,B4 base g lam Pr cx.N F L σ a w0 w→p) (h:p→Run cx KK k F L σ):Run cx KK k F L σ:=
 fun items base g lam Pr a w0 w b cs hi hf hb hk=>h (hp base g lam Pr a w0 w hf) items base g lam Pr a w0 w b cs hi hf hb hk
def AV.HW:AV→Prop
 | .d (.sl rows)=>rows.length≤9223372036854775807
 | .d (.str s)=>s.length≤9223372036854775807
 | .d (.int k n)=>k.min≤n∧n≤k.max
 | .own _ _ _ rows=>rows.length≤9223372036854775807
 | .clip rows=>rows.length≤9223372036854775807
 |_=>True
theorem VR.HW {g:Gh} {x:AV} {v:Value} (h:VR g x v):x.HW:=by
 cases h with
 |d h=>
  cases h with
  |int h=>exact h
  |bool=>trivial
  |str h=>exact h
  |nil=>simp [AV.HW]
  |sl hc hm _ _ _=>exact BC hc hm
  |ptr=>trivial
  |FP=>trivial
 |own h _ _=>obtain ⟨_,_,_,h2⟩:=h.Kf;exact h2
 |clip h=>obtain ⟨_,_,_,h2⟩:=h.Kf;exact h2
 |_=>trivial
theorem SV.HW {g:Gh} {lam:Nat→Option Nat} {x:AV} {v:Value} (h:SV g lam x v):x.HW:=by
 cases x<;>first|exact VR.HW h|trivial
theorem Run.slot (s:Nat) (h:(F s).HW→Run cx KK k F L σ):Run cx KK k F L σ:=
 Run.facts (fun _ _ _ _ _ _ _ hf=>(hf.tm s).HW) h
theorem Run.cell (j o:Nat) {cs:List AV} {c:AV} (hL:L j=some cs) (hc:cs[o]?=some c) (h:c.HW→Run cx KK k F L σ):Run cx KK k F L σ:=
 Run.facts (fun _ _ _ _ _ _ _ hf=>by
  obtain ⟨_,b,vs,ty,_,_,_,hr⟩:=hf.loc j cs hL
  obtain ⟨v,_,hv⟩:=hr.at o c hc
  exact hv.HW) h
end Go.Ab
