/- Compact code, its runs at the abstract level, and contracts out of runs. Equations that run compact code at the abstract level. Conditions: none. -/
import Derived.Scope
import Derived.Test.YtifplkldbbcldaaGreatDoorXAb10d
set_option linter.unusedSimpArgs false
set_option linter.unusedVariables false
set_option maxRecDepth 4000
set_option maxHeartbeats 8000000
open List renaming range→JD,all_cons→CC,getD_eq_getElem?_getD→VZ,getElem?_eq_some_iff→A3,mem_cons→Cm,all_nil→Lv,replicate→Ai,getElem_of_mem→Cp,getElem?_eq_getElem→Az,mem_of_getElem?→Aa
open Option.some renaming injEq→AQ
open Prod.mk renaming injEq→Ba
open Option renaming getD_some→Rb,map_eq_some_iff→AM,bind_eq_some_iff→AF,bind_eq_bind→AU,map_some→Cf
open Go renaming undef→Cs
open Bool renaming and_eq_true→AR,false_eq_true→AL
open Nat renaming le_refl→A4,mul_le_mul→Ol,zero_le→C3,le_trans→Ay
open Array renaming replicate→El,getD_eq_getD_getElem?→Cr
namespace Go.Ab
open Go.RowKit
inductive C where
 |skip
 |reg (ops:List Q) (live:List Nat)
 |Q8 (t:QT) (live:List Nat)
 |seq (x y:C)
 |cond (x:X) (t e:C)
 |block (id:Nat) (c:C)
 |loop (c:C)
 |exit (id:Nat)
 |ret
 |scope (c:C)
 |bad
inductive CI where
 |code (c:C)
 |blk (id:Nat)
 |scp
 |again (c:C)
def lK (P:Program) (N:Nat) (esc:List Nat) (pf:List FuncId) (live:List Nat) (pt:PT) (ops:Array Oper):Option C:=
 match pt with
 | .done=>(oN P N esc pf (JD ops.size) ops).map fun q=>.reg q live
 |pt=>(Z5 P N esc pf pt ops).map fun t=>match lin t with
  |some q=>.reg q live
  |none=>.Q8 t live
def HR (P:Program) (N:Nat) (esc:List Nat) (pf:List FuncId):Code→List (List Nat×PT)→Option (C×List (List Nat×PT))
 | .skip,ct=>some (.skip,ct)
 | .region _ ops false,(live,_)::ct=>some (((NN P N esc ops (JD ops.size)).map fun q=>C.reg q live).getD .bad,ct)
 | .region _ ops true,(live,pt)::ct=>some ((lK P N esc pf live pt ops).getD .bad,ct)
 | .seq x y,ct=>(HR P N esc pf x ct).bind fun r=>(HR P N esc pf y r.2).map fun r'=>(.seq r.1 r'.1,r'.2)
 | .cond c t e,ct=>(xo c).bind fun c'=>(HR P N esc pf t ct).bind fun r=>(HR P N esc pf e r.2).map fun r'=>(.cond c' r.1 r'.1,r'.2)
 | .block id c,ct=>(HR P N esc pf c ct).map fun r=>(.block id r.1,r.2)
 | .loop c,ct=>(HR P N esc pf c ct).map fun r=>(.loop r.1,r.2)
 | .exit id,ct=>some (.exit id,ct)
 | .ret,ct=>some (.ret,ct)
 | .scope c,ct=>(HR P N esc pf c ct).map fun r=>(.scope r.1,r.2)
 | .label _,ct=>some (.skip,ct)
 |_,_=>none
inductive RV where
 |t (n:Nat)
 |c (n:Nat) (k:Option Nat)
def Xk (P:Program):List ResultVar→Option (List RV)
 |[]=>some []
 | .tmp n::l=>do some (.t n::(← Xk P l))
 | .cell n t::l=>do
  let k ← ldN P t
  some (.c n k::(← Xk P l))
def rvA (F:Fm) (L:Lm) (σ:AK):RV→Option AV
 | .t n=>some (F n)
 | .c n k=>ldA L σ (F n) k
def nO (F:Fm) (L:Lm) (σ:AK):List RV→Option (List AV)
 |[]=>some []
 |r::l=>do some ((← rvA F L σ r)::(← nO F L σ l))
def gP (F:Fm) (L:Lm) (σ:AK) (rs:List RV):Option AV:=
 (nO F L σ rs).bind fun vs=>if vs.all AV.BL then (match vs with|[v]=>some v|vs=>some (.tup vs)) else none
def Wy (ks:List Nat) (F:Fm):Fm:=fun s=>if s∈ks then F s else .undef
def Sy (ks:List Nat) (L:Lm):Lm:=fun s=>if s∈ks then L s else none
variable {P:Program} {base N:Nat} {g g':Gh} {Pr:Nat→Prop} {σ σ':AK} {w0 w w':World} {lam:Nat→Option Nat} {F F':Fm} {L L':Lm} {a:Act}
theorem B2.bZ (h:B2 base g lam Pr N F L σ a w0 w) (hF:∀s,F' s=F s∨F' s= .undef) (hL:∀k cs,L' k=some cs→L k=some cs) (hσ:σ'.le σ):B2 base g lam Pr N F' L' σ' a w0 w:=by
 refine ⟨fun s=>?_,h.sz,h.df,fun k cs hk=>h.loc k cs (hL k cs hk),h.inj,h.npr,h.rel.less hσ⟩
 rcases hF s with e|e
 · rw [e];exact h.tm s
 · rw [e];exact VR.undef
theorem B2.kept (h:B2 base g lam Pr N F L σ a w0 w) (ks:List Nat):B2 base g lam Pr N (Wy ks F) (Sy ks L) σ a w0 w:=
 h.bZ (fun s=>by simp only [Wy];split<;>simp) (fun k cs hk=>by simp only [Sy] at hk;split at hk<;>simp_all) (AK.le_refl σ)
structure Cx where
 P:Program
 f:FuncId
 fn:Func
 N:Nat
 esc:List Nat
 pf:List FuncId
 rs:List RV
def RC (cx:Cx):C→Code→Prop
 | .skip,k=>k= .skip∨∃l,k= .label l
 | .scope c,k=>∃p,k= .scope p∧RC cx c p
 | .reg ops _,k=>∃id arr,(k= .region id arr false∧NN cx.P cx.N cx.esc arr (JD arr.size)=some ops)∨(k= .region id arr true∧∃order,oN cx.P cx.N cx.esc cx.pf order arr=some ops)∨(k= .region id arr true∧∃pt t,Z5 cx.P cx.N cx.esc cx.pf pt arr=some t∧lin t=some ops)
 | .Q8 t _,k=>∃id arr pt,k= .region id arr true∧Z5 cx.P cx.N cx.esc cx.pf pt arr=some t
 | .seq x y,k=>∃p q,k= .seq p q∧RC cx x p∧RC cx y q
 | .cond x t e,k=>∃c p q,k= .cond c p q∧xo c=some x∧RC cx t p∧RC cx e q
 | .block id c,k=>∃p,k= .block id p∧RC cx c p
 | .loop c,k=>∃p,k= .loop p∧RC cx c p
 | .exit id,k=>k= .exit id
 | .ret,k=>k= .ret
 | .bad,_=>True
theorem AW (cx:Cx):∀(k:Code) (ct:List (List Nat×PT)) (c:C) (ct':List (List Nat×PT)),HR cx.P cx.N cx.esc cx.pf k ct=some (c,ct')→RC cx c k
 | .skip,ct,c,ct',h=>by simp only [HR,AQ,Ba] at h;rw [← h.1];exact .inl rfl
 | .region id ops dr,ct,c,ct',h=>by
  cases ct with
  |nil=>cases dr<;>simp only [HR] at h<;>cases h
  |cons lo ct=>
   obtain ⟨live,order⟩:=lo
   cases dr
   · simp only [HR,AQ,Ba] at h
     obtain ⟨rfl,_⟩:=h
     cases hq:NN cx.P cx.N cx.esc ops (JD ops.size) with
     |none=>exact trivial
     |some qs=>exact ⟨id,ops,.inl ⟨rfl,hq⟩⟩
   · simp only [HR,AQ,Ba] at h
     obtain ⟨rfl,_⟩:=h
     cases hq:lK cx.P cx.N cx.esc cx.pf live order ops with
     |none=>exact trivial
     |some c'=>
     simp only [Rb]
     unfold lK at hq
     split at hq
     · simp only [AM] at hq
       obtain ⟨qs,hq',rfl⟩:=hq
       exact ⟨id,ops,.inr (.inl ⟨rfl,_,hq'⟩)⟩
     · simp only [AM] at hq
       obtain ⟨t,ht,rfl⟩:=hq
       cases hl:lin t with
       |some q=>exact ⟨id,ops,.inr (.inr ⟨rfl,_,t,ht,hl⟩)⟩
       |none=>exact ⟨id,ops,_,rfl,ht⟩
 | .seq x y,ct,c,ct',h=>by
  simp only [HR,AF,AM,Ba] at h
  obtain ⟨⟨x',c1⟩,hx,⟨y',c2⟩,hy,rfl,_⟩:=h
  exact ⟨x,y,rfl,AW cx x _ _ _ hx,AW cx y _ _ _ hy⟩
 | .cond c t e,ct,c2,ct',h=>by
  simp only [HR,AF,AM,Ba] at h
  obtain ⟨x,hx,⟨t',c1⟩,ht,⟨e',c3⟩,he,rfl,_⟩:=h
  exact ⟨c,t,e,rfl,hx,AW cx t _ _ _ ht,AW cx e _ _ _ he⟩
 | .block id p,ct,c,ct',h=>by
  simp only [HR,AM,Ba] at h
  obtain ⟨⟨c',c1⟩,hc,rfl,_⟩:=h
  exact ⟨p,rfl,AW cx p _ _ _ hc⟩
 | .loop p,ct,c,ct',h=>by
  simp only [HR,AM,Ba] at h
  obtain ⟨⟨c',c1⟩,hc,rfl,_⟩:=h
  exact ⟨p,rfl,AW cx p _ _ _ hc⟩
 | .exit id,ct,c,ct',h=>by simp only [HR,AQ,Ba] at h;rw [← h.1];rfl
 | .ret,ct,c,ct',h=>by simp only [HR,AQ,Ba] at h;rw [← h.1];rfl
 | .rangeFunc ..,ct,c,ct',h=>by simp only [HR] at h;cases h
 | .scope p,ct,c,ct',h=>by
  simp only [HR,AM,Ba] at h
  obtain ⟨⟨c',c1⟩,hc,rfl,_⟩:=h
  exact ⟨p,rfl,AW cx p _ _ _ hc⟩
 | .label l,ct,c,ct',h=>by simp only [HR,AQ,Ba] at h;rw [← h.1];exact .inr ⟨l,rfl⟩
 | .goto _,ct,c,ct',h=>by simp only [HR] at h;cases h
 | .refuse _,ct,c,ct',h=>by simp only [HR] at h;cases h
def RI (cx:Cx):CI→Item→Prop
 | .code c,y=>∃k,y= .code k∧RC cx c k
 | .blk id,y=>y= .inBlock id
 | .scp,y=>∃k,y= .inScope k
 | .again c,y=>∃k,y= .inLoop k∧RC cx c k
inductive RIs (cx:Cx):List CI→List Item→Prop
 |nil:RIs cx [] []
 |cons {x:CI} {y:Item} {xs:List CI} {ys:List Item} (h:RI cx x y) (hs:RIs cx xs ys):RIs cx (x::xs) (y::ys)
def Good (cx:Cx):Prop:=cx.P.funcs[cx.f]?=some cx.fn∧Xk cx.P cx.fn.results.toList=some cx.rs
def Run (cx:Cx) (K:AV→AK→Prop) (todo:List CI) (F:Fm) (L:Lm) (σ:AK):Prop:=
 ∀(items:List Item) (base:Nat) (g:Gh) (lam:Nat→Option Nat) (Pr:Nat→Prop) (a:Act) (w0 w:World) (b:Frame) (cs:List Frame),
  RIs cx todo items→B2 base g lam Pr cx.N F L σ a w0 w→b.fn=cx.f→b.kind= .normal→
  ∃v w' fr,Steps cx.P (lone (b.at a items) cs w) (lone fr cs w')∧fr.fn=cx.f∧fr.leaving cx.P w' (.returned v)∧
   ∃av g' σ',VR g' av v∧Rel base g' Pr σ' w0 w'∧g.le g'∧KP Pr w w'∧K av σ'
variable {cx:Cx} {K:AV→AK→Prop} {k:List CI}
theorem Run.bZ (hF:∀s,F' s=F s∨F' s= .undef) (hL:∀k cs,L' k=some cs→L k=some cs) (hσ:σ'.le σ) (h:Run cx K k F' L' σ'):Run cx K k F L σ:=
 fun items base g lam Pr a w0 w b cs hi hf hb hk=>h items base g lam Pr a w0 w b cs hi (hf.bZ hF hL hσ) hb hk
theorem Run.Mm {k':List CI}
 (hs:∀items,RIs cx k items→∃items',RIs cx k' items'∧∀(b:Frame) (a:Act) (cs:List Frame) (w:World),step cx.P (lone (b.at a items) cs w)= .next (lone (b.at a items') cs w))
 (h:Run cx K k' F L σ):Run cx K k F L σ:=by
 intro items base g lam Pr a w0 w b cs hi hf hb hk
 obtain ⟨items',hi',hst⟩:=hs items hi
 obtain ⟨v,w',fr,hss,rest⟩:=h items' base g lam Pr a w0 w b cs hi' hf hb hk
 exact ⟨v,w',fr,.head (hst b a cs w) hss,rest⟩
theorem RIs.code {c:C} {items:List Item} (h:RIs cx (.code c::k) items):∃p ys,items= .code p::ys∧RC cx c p∧RIs cx k ys:=by
 cases h with
 |cons hy hys=>obtain ⟨p,rfl,hp⟩:=hy;exact ⟨p,_,rfl,hp,hys⟩
theorem RIs.Ml {c:C} {p:Code} {ys:List Item} (hc:RC cx c p) (h:RIs cx k ys):RIs cx (.code c::k) (.code p::ys):= .cons ⟨p,rfl,hc⟩ h
theorem Run.skip (h:Run cx K k F L σ):Run cx K (.code .skip::k) F L σ:=
 h.Mm fun items hi=>by
  obtain ⟨p,ys,rfl,hp,hys⟩:=hi.code
  rcases hp with rfl|⟨l,rfl⟩
  · exact ⟨ys,hys,fun b a cs w=>step_skip⟩
  · exact ⟨ys,hys,fun b a cs w=>step_label⟩
theorem Run.scope {c:C} (h:Run cx K (.code c::.scp::k) F L σ):Run cx K (.code (.scope c)::k) F L σ:=
 h.Mm fun items hi=>by
  obtain ⟨p,ys,rfl,⟨p1,rfl,h1⟩,hys⟩:=hi.code
  exact ⟨_,.Ml h1 (.cons ⟨p1,rfl⟩ hys),fun b a cs w=>step_scope⟩
theorem Run.scp (h:Run cx K k F L σ):Run cx K (.scp::k) F L σ:=
 h.Mm fun items hi=>by
  cases hi with
  |cons hy hys=>obtain ⟨p,rfl⟩:=hy;exact ⟨_,hys,fun b a cs w=>step_inScope⟩
theorem Run.seq {x y:C} (h:Run cx K (.code x::.code y::k) F L σ):Run cx K (.code (.seq x y)::k) F L σ:=
 h.Mm fun items hi=>by
  obtain ⟨p,ys,rfl,⟨p1,p2,rfl,h1,h2⟩,hys⟩:=hi.code
  exact ⟨_,.Ml h1 (.Ml h2 hys),fun b a cs w=>step_seq⟩
theorem Run.block {id:Nat} {c:C} (h:Run cx K (.code c::.blk id::k) F L σ):Run cx K (.code (.block id c)::k) F L σ:=
 h.Mm fun items hi=>by
  obtain ⟨p,ys,rfl,⟨p1,rfl,h1⟩,hys⟩:=hi.code
  exact ⟨_,.Ml h1 (.cons rfl hys),fun b a cs w=>step_block⟩
theorem Run.blk {id:Nat} (h:Run cx K k F L σ):Run cx K (.blk id::k) F L σ:=
 h.Mm fun items hi=>by
  cases hi with
  |cons hy hys=>cases hy;exact ⟨_,hys,fun b a cs w=>step_inBlock⟩
theorem Run.loop {c:C} (h:Run cx K (.code c::.again c::k) F L σ):Run cx K (.code (.loop c)::k) F L σ:=
 h.Mm fun items hi=>by
  obtain ⟨p,ys,rfl,⟨p1,rfl,h1⟩,hys⟩:=hi.code
  exact ⟨_,.Ml h1 (.cons ⟨p1,rfl,h1⟩ hys),fun b a cs w=>step_loop⟩
theorem Run.again {c:C} (h:Run cx K (.code c::.again c::k) F L σ):Run cx K (.again c::k) F L σ:=
 h.Mm fun items hi=>by
  cases hi with
  |cons hy hys=>obtain ⟨p1,rfl,h1⟩:=hy;exact ⟨_,.Ml h1 (.cons ⟨p1,rfl,h1⟩ hys),fun b a cs w=>step_inLoop⟩
def Vi (id:Nat):List CI→Option (List CI)
 | .blk id'::k=>if id'=id then some k else Vi id k
 |_::k=>Vi id k
 |[]=>none
theorem LR {id:Nat}:∀(k:List CI) (items:List Item) (k':List CI),RIs cx k items→Vi id k=some k'→∃items',exitTo id items=some items'∧RIs cx k' items'
 |[],_,_,_,h=>by cases h
 |x::k,items,k',hi,h=>by
  cases hi with
  |@cons _ y _ ys hy hys=>
   cases x with
   |code c=>
    obtain ⟨p,rfl,_⟩:=hy
    obtain ⟨i',h1,h2⟩:=LR k ys k' hys (by simpa [Vi] using h)
    exact ⟨i',by simpa [exitTo] using h1,h2⟩
   |again c=>
    obtain ⟨p,rfl,_⟩:=hy
    obtain ⟨i',h1,h2⟩:=LR k ys k' hys (by simpa [Vi] using h)
    exact ⟨i',by simpa [exitTo] using h1,h2⟩
   |scp=>
    obtain ⟨p,rfl⟩:=hy
    obtain ⟨i',h1,h2⟩:=LR k ys k' hys (by simpa [Vi] using h)
    exact ⟨i',by simpa [exitTo] using h1,h2⟩
   |blk id'=>
    cases hy
    simp only [Vi] at h
    split at h
    · rename_i e
      cases h
      exact ⟨ys,by simp [exitTo,e],hys⟩
    · rename_i e
      obtain ⟨i',h1,h2⟩:=LR k ys k' hys h
      exact ⟨i',by simpa [exitTo,e] using h1,h2⟩
theorem Run.exit {id:Nat} {k':List CI} (he:Vi id k=some k') (h:Run cx K k' F L σ):Run cx K (.code (.exit id)::k) F L σ:=
 h.Mm fun items hi=>by
  obtain ⟨p,ys,rfl,hp,hys⟩:=hi.code
  cases hp
  obtain ⟨i',h1,h2⟩:=LR k ys k' hys he
  exact ⟨i',h2,fun b a cs w=>step_exit h1⟩
theorem Run.cond {x:X} {t e:C} {b:Bool} (hx:xv F x= .d (.bool b)) (ht:b=true→Run cx K (.code t::k) F L σ) (he:b=false→Run cx K (.code e::k) F L σ):
 Run cx K (.code (.cond x t e)::k) F L σ:=by
 intro items base g lam Pr a w0 w fb cs hi hf hb hk
 obtain ⟨p,ys,rfl,⟨c,p1,p2,rfl,hc,h1,h2⟩,hys⟩:=hi.code
 have hv:=Ad hc hf
 rw [hx] at hv
 have hev:a.eval c= .bool b:=by generalize a.eval c=vc at hv;cases hv with|d hh=>cases hh;rfl
 cases b with
 |true=>
  obtain ⟨v,w',fr,hs,rest⟩:=ht rfl _ base g lam Pr a w0 w fb cs (.Ml h1 hys) hf hb hk
  exact ⟨v,w',fr,.head (step_cond hev) hs,rest⟩
 |false=>
  obtain ⟨v,w',fr,hs,rest⟩:=he rfl _ base g lam Pr a w0 w fb cs (.Ml h2 hys) hf hb hk
  exact ⟨v,w',fr,.head (step_cond hev) hs,rest⟩
def kT (cx:Cx) (K:AV→AK→Prop) (k:List CI) (live:List Nat):Cd:=fun F L σ=>Run cx K k (Wy live F) (Sy live L) σ
theorem Run.reg {ops:List Q} {live:List Nat} (hm:cx.P.follows .mixedOrders=true) (h:BN cx.P (kT cx K k live) ops F L σ):Run cx K (.code (.reg ops live)::k) F L σ:=by
 intro items base g lam Pr a w0 w b cs hi hf hb hk
 obtain ⟨p,ys,rfl,⟨id,arr,hp⟩,hys⟩:=hi.code
 have hw:p.wp cx.P (fun e a' w'=>e= .normal∧FG base Pr cx.N w0 g w (kT cx K k live) a' w') a w:=by
  rcases hp with ⟨rfl,hc⟩|⟨rfl,order,hc⟩|⟨rfl,pt,t,hc,hl⟩
  · exact wp_region (cC cx.P arr cx.N cx.esc (kT cx K k live) _ _ base g lam Pr F L σ a w0 w hc h hf (fun _ _ h=>⟨rfl,h⟩))
  · exact lP hm hc h hf
  · exact Xl hm hc (vK t ops F L σ hl h) hf
 obtain ⟨e,a',w',⟨he,g',lam',F',L',σ',hle,hkp,hf',hK⟩,harr⟩:=hw b ys cs
 subst he
 obtain ⟨v,w2,fr,hs,hfn,hl,av,g2,σ2,hvr,hrel,hle2,hkp2,hk2⟩:=hK ys base g' lam' Pr a' w0 w' b cs hys (hf'.kept live) hb hk
 exact ⟨v,w2,fr,Steps.trans harr hs,hfn,hl,av,g2,σ2,hvr,hrel,Gh.le_trans hle hle2,hkp.trans hkp2,hk2⟩
theorem Run.Q8 {t:QT} {live:List Nat} (hm:cx.P.follows .mixedOrders=true) (h:XT cx.P (kT cx K k live) false t F L σ):Run cx K (.code (.Q8 t live)::k) F L σ:=by
 intro items base g lam Pr a w0 w b cs hi hf hb hk
 obtain ⟨p,ys,rfl,⟨id,arr,pt,rfl,hc⟩,hys⟩:=hi.code
 have hw:(Code.region id arr true).wp cx.P (fun e a' w'=>e= .normal∧FG base Pr cx.N w0 g w (kT cx K k live) a' w') a w:=Xl hm hc h hf
 obtain ⟨e,a',w',⟨he,g',lam',F',L',σ',hle,hkp,hf',hK⟩,harr⟩:=hw b ys cs
 subst he
 obtain ⟨v,w2,fr,hs,hfn,hl,av,g2,σ2,hvr,hrel,hle2,hkp2,hk2⟩:=hK ys base g' lam' Pr a' w0 w' b cs hys (hf'.kept live) hb hk
 exact ⟨v,w2,fr,Steps.trans harr hs,hfn,hl,av,g2,σ2,hvr,hrel,Gh.le_trans hle hle2,hkp.trans hkp2,hk2⟩
theorem X1 (hf:B2 base g lam Pr N F L σ a w0 w):∀(l:List ResultVar) (rs:List RV) (vs:List AV),Xk P l=some rs→nO F L σ rs=some vs→vs.all AV.BL=true→
 ∃xs:List Value,(l.mapM fun| .tmp t=>pure (a.tmps.getD t Cs)| .cell ad t=>do loadVar t (← asAddr (a.tmps.getD ad Cs)):Sem (List Value)).run P w= .ok xs w∧VRs g vs xs
 |[],rs,vs,hc,hv,_=>by
  simp only [Xk,AQ] at hc;subst hc
  simp only [nO,AQ] at hv;subst hv
  exact ⟨[],by simp,.nil⟩
 | .tmp n::l,rs,vs,hc,hv,hn=>by
  simp only [Xk,AU,AF] at hc
  obtain ⟨rs',hrs,he⟩:=hc
  cases he
  simp only [nO,AU,AF,rvA] at hv
  obtain ⟨v,hv1,vs',hvs,he⟩:=hv
  cases he;cases hv1
  simp only [CC,AR] at hn
  obtain ⟨xs,hx,hr⟩:=X1 hf l rs' vs' hrs hvs hn.2
  exact ⟨a.tmps.getD n Cs::xs,by simp only [List.mapM_cons,Sem.run_bind,Sem.run_pure,Result.andThen_ok,hx],.cons ((hf.tm n).vr hn.1) hr⟩
 | .cell n t::l,rs,vs,hc,hv,hn=>by
  simp only [Xk,AU,AF] at hc
  obtain ⟨kk,hkk,rs',hrs,he⟩:=hc
  cases he
  simp only [nO,AU,AF,rvA] at hv
  obtain ⟨v,hv1,vs',hvs,he⟩:=hv
  cases he
  simp only [CC,AR] at hn
  obtain ⟨xs,hx,hr⟩:=X1 hf l rs' vs' hrs hvs hn.2
  obtain ⟨x,hld,hvr⟩:=jD (P:=P) hkk hf (hf.tm n) hv1
  have hasaddr:(do loadVar t (← asAddr (a.tmps.getD n Cs)):Sem Value).run P w= .ok x w:=by
   have hs:=hf.tm n
   generalize a.tmps.getD n Cs=pn at hs hld
   cases hp:pn<;>simp only [hp,Instr.loadAt,Instr.sureAddr] at hld<;>try (simp at hld;done)
   rename_i ad
   cases ad with
   |none=>simp at hld
   |some ad=>simpa [asAddr,Instr.sureAddr] using hld
  exact ⟨x::xs,by simp only [Sem.run_bind] at hasaddr;simp only [List.mapM_cons,Sem.run_bind,hasaddr,hx,Result.andThen_ok,Sem.run_pure],.cons hvr hr⟩
theorem eR {fn:Func} {rs:List RV} (hc:Xk P fn.results.toList=some rs) (hf:B2 base g lam Pr N F L σ a w0 w) {v:AV} (hv:gP F L σ rs=some v):
 ∃x,(results fn a.tmps).run P w= .ok x w∧VR g v x:=by
 simp only [gP,AF] at hv
 obtain ⟨vs,hvs,hv⟩:=hv
 split at hv
 case isFalse=>cases hv
 rename_i hn
 obtain ⟨xs,hx,hr⟩:=X1 (P:=P) hf _ rs vs hc hvs hn
 have hrun:(results fn a.tmps).run P w= .ok (if h:xs.toArray.size=1 then xs.toArray[0] else .tuple xs.toArray) w:=by
  unfold results
  rw [Array.mapM_eq_mapM_toList]
  simp only [Sem.run_bind,Sem.run_map,Sem.run_pure]
  exact congrArg (fun r:Result (List Value)=>(r.andThen fun a w'=>Result.ok a.toArray w').andThen fun (a:Array Value) w'=>Result.ok (if h:a.size=1 then a[0] else Value.tuple a) w') hx
 have hlen:=hr.length
 cases vs with
 |nil=>
  cases hv
  cases hr
  exact ⟨_,hrun,by simpa using VR.tup (g:=g) (cs:=[]) (vs:=[]) rfl (by simp)⟩
 |cons v1 vs=>
  cases vs with
  |nil=>
   cases hv
   cases hr with|cons h1 h2=>cases h2;exact ⟨_,hrun,by simpa using h1⟩
  |cons v2 vs=>
   cases hv
   refine ⟨_,hrun,?_⟩
   have hne:¬xs.toArray.size=1:=by simp at hlen ⊢;omega
   rw [dif_neg hne]
   exact .tup hr.length hr.idx
theorem Run.fin {σ2:AK} (hg:Good cx) {v v':AV} (hv:gP F L σ cx.rs=some v) (hw:∀g x,VR g v x→VR g v' x) (hσ:σ2.le σ) (hK:K v' σ2):Run cx K [] F L σ:=by
 intro items base g lam Pr a w0 w b cs hi hf hb hk
 cases hi
 obtain ⟨x,hx,hvr⟩:=eR hg.2 hf hv
 refine ⟨x,w,_,.one step_end,hb,⟨rfl,hf.df,hk,cx.fn,by show cx.P.funcs[b.fn]?=_;rw [hb];exact hg.1,hx⟩,v',g,σ2,hw g x hvr,?_,Gh.le_refl g,KP.refl Pr w,hK⟩
 exact (hf.rel.less hσ).grow (A4 _) (fun _ _ _=>rfl) (Below.refl _ _) (fun b hp=>⟨(hf.rel.pr b (.inl hp)).1,.inl (.inl hp)⟩)
theorem Run.ret {σ2:AK} (hg:Good cx) {v v':AV} (hv:gP F L σ cx.rs=some v) (hw:∀g x,VR g v x→VR g v' x) (hσ:σ2.le σ) (hK:K v' σ2):Run cx K (.code .ret::k) F L σ:=by
 intro items base g lam Pr a w0 w b cs hi hf hb hk
 obtain ⟨p,ys,rfl,hp,hys⟩:=hi.code
 cases hp
 obtain ⟨x,hx,hvr⟩:=eR hg.2 hf hv
 refine ⟨x,w,_,.one step_ret,hb,⟨rfl,hf.df,hk,cx.fn,by show cx.P.funcs[b.fn]?=_;rw [hb];exact hg.1,hx⟩,v',g,σ2,hw g x hvr,?_,Gh.le_refl g,KP.refl Pr w,hK⟩
 exact (hf.rel.less hσ).grow (A4 _) (fun _ _ _=>rfl) (Below.refl _ _) (fun b hp=>⟨(hf.rel.pr b (.inl hp)).1,.inl (.inl hp)⟩)
def Ak (args:List AV):Fm:=fun s=>args.getD s .undef
theorem AT {args:List AV} {c:C} {code:Code} (hg:Good cx) (hb:cx.fn.body=some code) (hN:cx.fn.ntmps=cx.N) (hl:args.length≤cx.N) (hc:RC cx c code)
 (h:Run cx K [.code c] (Ak args) (fun _=>none) σ):AP cx.P cx.f args σ K:=by
 intro base g Pr w0 w vs hrel hvs cs
 let b:Frame:= { (default:Frame) with fn:=cx.f,kind:= .normal}
 have henter:Frame.enter cx.P cx.f vs.toArray .normal=b.at { tmps:=vs.toArray++El (cx.fn.ntmps - vs.toArray.size) Cs,defers:=[]} [.code code]:=by
  simp [Frame.enter,Frame.at,hg.1,hb,b]
 have hvl:=hvs.length
 have hf:B2 base g (fun _=>none) Pr cx.N (Ak args) (fun _=>none) σ { tmps:=vs.toArray++El (cx.fn.ntmps - vs.toArray.size) Cs,defers:=[]} w0 w:=by
  refine ⟨fun s=>?_,by simp;omega,rfl,fun k cs hk=>(by cases hk),fun k k' b hk=>(by cases hk),fun k b hk=>(by cases hk),?_⟩
  · simp only [Ak,VZ]
    cases hs:args[s]? with
    |none=>exact VR.undef
    |some av=>
     obtain ⟨v,hv,hr⟩:=hvs.at s av hs
     have hlt:=(A3.1 hv).1
     have:(vs.toArray++El (cx.fn.ntmps - vs.toArray.size) Cs).getD s Cs=v:=by
      simp only [Cr]
      rw [Array.getElem?_append_left (by simpa using hlt)]
      simp [hv]
     show SV g _ av ((vs.toArray++El (cx.fn.ntmps - vs.toArray.size) Cs).getD s Cs)
     rw [this];exact SV.En hr
  · exact hrel.grow (A4 _) (fun _ _ _=>rfl) (Below.refl _ _) (fun b hp=>by
     rcases hp with hp|⟨k,hk⟩
     · exact ⟨(hrel.pr b hp).1,.inl hp⟩
     · cases hk)
 obtain ⟨v,w',fr,hs,hfn,hlv,av,g',σ',h1,h2,h3,h4,h5⟩:=h [.code code] base g _ Pr _ w0 w b cs (.Ml hc .nil) hf rfl rfl
 rw [← henter] at hs
 exact ⟨.returned v,w',fr,⟨v,av,g',σ',rfl,h1,h2,h3,h4,h5⟩,hs,hfn,hlv⟩
end Go.Ab
namespace Go.Ab
open Go.RowKit
variable {P:Program} {K:Cd} {F:Fm} {L:Lm} {σ:AK} {r:List Q}
def E:Lm:=fun _=>none
def Ug (k:Nat) (o:Option (List AV)) (L:Lm):Lm:=fun s=>if s=k then o else L s
theorem Jg (d:Nat) (v:AV) (F:Fm) (s:Nat):put d v F s=if s=d then v else F s:=rfl
theorem wP (d:Nat) (cs:List AV) (L:Lm) (s:Nat):Aq d cs L s=if s=d then some cs else L s:=rfl
theorem AEI (s:Nat):E s=none:=rfl
theorem AEM (s:Nat):U s= .undef:=rfl
theorem uV (F:Fm):Wy [] F=U:=rfl
theorem rT (k:Nat) (ks:List Nat) (F:Fm):Wy (k::ks) F=put k (F k) (Wy ks F):=by
 funext s
 simp only [Wy,put,Cm]
 by_cases h:s=k
 · subst h;simp
 · simp [h]
theorem rS (L:Lm):Sy [] L=E:=rfl
theorem mI (k:Nat) (ks:List Nat) (L:Lm):Sy (k::ks) L=Ug k (L k) (Sy ks L):=by
 funext s
 simp only [Sy,Ug,Cm]
 by_cases h:s=k
 · subst h;simp
 · simp [h]
theorem nF (k:Nat) (cs:List AV) (L:Lm):Ug k (some cs) L=Aq k cs L:=rfl
theorem AAG (k:Nat):Ug k none E=E:=by funext s;simp [Ug,E]
theorem nE (k j:Nat) (cs:List AV) (L:Lm):Ug k none (Aq j cs L)=if j=k then Ug k none L else Aq j cs (Ug k none L):=by
 funext s
 by_cases h:j=k
 · subst h
   simp only [if_true,Ug,Aq]
   by_cases h2:s=j<;>simp [h2]
 · simp only [h,if_false,Ug,Aq]
   by_cases h2:s=k
   · have h3:s≠j:=by omega
     rw [if_pos h2,if_neg h3,if_pos h2]
   · rw [if_neg h2]
     by_cases h3:s=j
     · rw [if_pos h3,if_pos h3]
     · rw [if_neg h3,if_neg h3,if_neg h2]
theorem sO (k:Nat) (cs ds:List AV) (L:Lm):Aq k cs (Aq k ds L)=Aq k cs L:=by
 funext s;simp only [Aq];split<;>rfl
theorem AF7 (F:Fm) (n:Nat):xv F (.t n)=F n:=rfl
theorem AF6 (F:Fm) (v:AV):xv F (.c v)=v:=rfl
theorem Ar (a:AV):Ak [a]=put 0 a U:=by
 funext s;simp only [Ak,put,U];cases s<;>simp
theorem BH (a b:AV):Ak [a,b]=put 0 a (put 1 b U):=by
 funext s;simp only [Ak,put,U]
 match s with|0=>rfl|1=>rfl|n+2=>simp
theorem Hw (a b c:AV):Ak [a,b,c]=put 0 a (put 1 b (put 2 c U)):=by
 funext s;simp only [Ak,put,U]
 match s with|0=>rfl|1=>rfl|2=>rfl|n+3=>simp
theorem ZS (a b c d:AV):Ak [a,b,c,d]=put 0 a (put 1 b (put 2 c (put 3 d U))):=by
 funext s;simp only [Ak,put,U]
 match s with|0=>rfl|1=>rfl|2=>rfl|3=>rfl|n+4=>simp
theorem AAF (k:Nat):DS k U=U:=by funext s;simp [DS,U,AV.DF]
theorem sN (k d:Nat) (v:AV) (F:Fm):DS k (put d v F)=put d (if v.DF k then .undef else v) (DS k F):=by
 funext s
 simp only [DS,put]
 by_cases h:s=d<;>simp [h]
theorem AC8 (k:Nat) (x:DV):(AV.d x).DF k=false:=rfl
theorem r7 (k:Nat):AV.AO.DF k=false:=rfl
theorem vO (k t e s:Nat) (r:List (List DV)):(AV.own t e s r).DF k=false:=rfl
theorem rZ (k:Nat) (r:List (List DV)):(AV.clip r).DF k=false:=rfl
theorem vN (k:Nat) (r:List AV):(AV.agg r).DF k=false:=rfl
theorem zP (k j o:Nat):(AV.lp j o).DF k=(j==k):=rfl
theorem zO (k j o:Nat):(AV.gp j o).DF k=false:=rfl
theorem zM (k o:Nat) (r:List DV):(AV.ep r o).DF k=false:=rfl
theorem r4 (k:Nat):AV.FN.DF k=false:=rfl
theorem zQ (k i n s e:Nat):(AV.ms i n s e).DF k=false:=rfl
theorem zR (k:Nat) (i o n s e:Nat):(AV.mv i o n s e).DF k=false:=rfl
theorem zL (k:Nat) (t e:Nat) (s:List UInt8):(AV.bp t e s).DF k=false:=rfl
theorem r3 (k:Nat):AV.PY.DF k=false:=rfl
theorem zN (k:Nat) (f:FuncId) (x y:List AV):(AV.fn f x y).DF k=false:=rfl
theorem vP (k:Nat) (x:List AV):(AV.tup x).DF k=false:=rfl
theorem mK (k:Nat):AV.undef.DF k=false:=rfl
theorem yO (x:DV):AV.cells (AV.d x)=[(AV.d x)]:=rfl
theorem lH:AV.cells AV.AO=[AV.AO]:=rfl
theorem qU (t e s:Nat) (r:List (List DV)):AV.cells (AV.own t e s r)=[(AV.own t e s r)]:=rfl
theorem lE (r:List (List DV)):AV.cells (AV.clip r)=[(AV.clip r)]:=rfl
theorem qT (r:List AV):AV.cells (AV.agg r)=r:=rfl
theorem uA (j o:Nat):AV.cells (AV.lp j o)=[(AV.lp j o)]:=rfl
theorem tZ (j o:Nat):AV.cells (AV.gp j o)=[(AV.gp j o)]:=rfl
theorem tX (r:List DV) (o:Nat):AV.cells (AV.ep r o)=[(AV.ep r o)]:=rfl
theorem lG:AV.cells AV.FN=[AV.FN]:=rfl
theorem uB (i n s e:Nat):AV.cells (AV.ms i n s e)=[(AV.ms i n s e)]:=rfl
theorem uC (i o n s e:Nat):AV.cells (AV.mv i o n s e)=[AV.mv i o n s e]:=rfl
theorem tW (t e:Nat) (s:List UInt8):AV.cells (AV.bp t e s)=[AV.bp t e s]:=rfl
theorem lF:AV.cells AV.PY=[AV.PY]:=rfl
theorem tY (f:FuncId) (x y:List AV):AV.cells (AV.fn f x y)=[(AV.fn f x y)]:=rfl
theorem qV (x:List AV):AV.cells (AV.tup x)=[(AV.tup x)]:=rfl
theorem iH:AV.cells AV.undef=[AV.undef]:=rfl
theorem uS (x:DV):AV.CB (AV.d x)=true:=rfl
theorem iV:AV.CB AV.AO=true:=rfl
theorem mD (t e s:Nat) (r:List (List DV)):AV.CB (AV.own t e s r)=true:=rfl
theorem iR (r:List (List DV)):AV.CB (AV.clip r)=true:=rfl
theorem mC (r:List AV):AV.CB (AV.agg r)=false:=rfl
theorem rM (j o:Nat):AV.CB (AV.lp j o)=false:=rfl
theorem rL (j o:Nat):AV.CB (AV.gp j o)=true:=rfl
theorem rJ (r:List DV) (o:Nat):AV.CB (AV.ep r o)=true:=rfl
theorem iU:AV.CB AV.FN=true:=rfl
theorem rN (i n s e:Nat):AV.CB (AV.ms i n s e)=true:=rfl
theorem rO (i o n s e:Nat):AV.CB (AV.mv i o n s e)=true:=rfl
theorem rI (t e:Nat) (s:List UInt8):AV.CB (AV.bp t e s)=true:=rfl
theorem iT:AV.CB AV.PY=true:=rfl
theorem rK (f:FuncId) (x y:List AV):AV.CB (AV.fn f x y)=true:=rfl
theorem mE (x:List AV):AV.CB (AV.tup x)=false:=rfl
theorem fW:AV.CB AV.undef=false:=rfl
theorem Kg (x:DV):AV.BL (AV.d x)=true:=rfl
theorem sC:AV.BL AV.AO=true:=rfl
theorem vT (t e s:Nat) (r:List (List DV)):AV.BL (AV.own t e s r)=true:=rfl
theorem r9 (r:List (List DV)):AV.BL (AV.clip r)=true:=rfl
theorem Fu (r:List AV):AV.BL (AV.agg r)=true:=rfl
theorem zW (j o:Nat):AV.BL (AV.lp j o)=false:=rfl
theorem Jd (j o:Nat):AV.BL (AV.gp j o)=true:=rfl
theorem zU (r:List DV) (o:Nat):AV.BL (AV.ep r o)=true:=rfl
theorem sB:AV.BL AV.FN=true:=rfl
theorem zX (i n s e:Nat):AV.BL (AV.ms i n s e)=true:=rfl
theorem zY (i o n s e:Nat):AV.BL (AV.mv i o n s e)=true:=rfl
theorem zT (t e:Nat) (s:List UInt8):AV.BL (AV.bp t e s)=true:=rfl
theorem sA:AV.BL AV.PY=true:=rfl
theorem zV (f:FuncId) (x y:List AV):AV.BL (AV.fn f x y)=true:=rfl
theorem vU (x:List AV):AV.BL (AV.tup x)=true:=rfl
theorem mP:AV.BL AV.undef=true:=rfl
theorem AFW (x:DV):AV.dv (AV.d x)=some x:=rfl
theorem yY:AV.dv AV.AO=some (.sl []):=rfl
theorem ACU (t e s:Nat) (r:List (List DV)):AV.dv (AV.own t e s r)=some (.sl r):=rfl
theorem yV (r:List (List DV)):AV.dv (AV.clip r)=some (.sl r):=rfl
theorem ACT (r:List AV):AV.dv (AV.agg r)=none:=rfl
theorem AEU (j o:Nat):AV.dv (AV.lp j o)=none:=rfl
theorem AET (j o:Nat):AV.dv (AV.gp j o)=none:=rfl
theorem AER (r:List DV) (o:Nat):AV.dv (AV.ep r o)=none:=rfl
theorem yX:AV.dv AV.FN=some .FN:=rfl
theorem AEW (i o n s e:Nat):AV.dv (AV.mv i o n s e)=none:=rfl
theorem AEQ (t e:Nat) (s:List UInt8):AV.dv (AV.bp t e s)=none:=rfl
theorem yW:AV.dv AV.PY=none:=rfl
theorem AEV (i n s e:Nat):AV.dv (AV.ms i n s e)=none:=rfl
theorem AES (f:FuncId) (x y:List AV):AV.dv (AV.fn f x y)=none:=rfl
theorem ACV (x:List AV):AV.dv (AV.tup x)=none:=rfl
theorem uI:AV.dv AV.undef=none:=rfl
theorem sS:AV.rows AV.AO=some []:=rfl
theorem wZ (t e s:Nat) (r:List (List DV)):AV.rows (AV.own t e s r)=some r:=rfl
theorem sR (r:List (List DV)):AV.rows (AV.clip r)=some r:=rfl
theorem ADN (r:List (List DV)):AV.rows (AV.d (.sl r))=some r:=rfl
theorem rX:Tz AV.AO=some (.d (.int .i64 0)):=rfl
theorem vJ (t e s:Nat) (r:List (List DV)):Tz (AV.own t e s r)=some (.d (.int .i64 r.length)):=rfl
theorem rW (r:List (List DV)):Tz (AV.clip r)=some (.d (.int .i64 r.length)):=rfl
theorem zH (i n s e:Nat):Tz (AV.ms i n s e)=some (.d (.int .i64 n)):=rfl
theorem zI (i o n s e:Nat):Tz (AV.mv i o n s e)=some (.d (.int .i64 n)):=rfl
theorem AC5 (r:List (List DV)):Tz (AV.d (.sl r))=some (.d (.int .i64 r.length)):=rfl
theorem AEC:BN P K [] F L σ=K F L σ:=rfl
theorem AEH (b:Bool) (q:Q) (t:QT):XT P K b (.one q t) F L σ=BN P (XT P K false t) [q] F L σ:=by cases b<;>rfl
theorem AEG (b:Bool) (q:Q) (t s:QT):XT P K b (.alt q t s) F L σ=(BN P (XT P K false t) [q] F L σ∧XT P K true s F L σ):=by cases b<;>rfl
theorem ABP:XT P K false .done F L σ=K F L σ:=rfl
theorem ABQ:XT P K true .done F L σ=True:=rfl
theorem yE (v:AV) (d:Nat):XPv (some v) (some d) K F L σ=K (put d v F) L σ:=rfl
theorem AFR (d:Nat) (x:X):BN P K (⟨some d,.mv x,none⟩::r) F L σ=BN P K r (put d (xv F x) F) L σ:=rfl
theorem ABK (d:Option Nat) (x y z:X):BN P K (⟨d,.pick x y z,none⟩::r) F L σ=XPv (jM (xv F x) (xv F y) (xv F z)) d (BN P K r) F L σ:=rfl
theorem AD5 (d:Option Nat) (x:X) (o:Nat):BN P K (⟨d,.fld x o,none⟩::r) F L σ=XPv (lR (xv F x) o) d (BN P K r) F L σ:=rfl
theorem AFP (d:Option Nat) (x:X) (n:Option Nat):BN P K (⟨d,.ld x n,none⟩::r) F L σ=XPv (ldA L σ (xv F x) n) d (BN P K r) F L σ:=rfl
theorem AFO (d:Option Nat) (x y:X) (n:Nat):BN P K (⟨d,.ix x y n,none⟩::r) F L σ=XPv (ixA (xv F x) (xv F y) n) d (BN P K r) F L σ:=rfl
theorem ABM (d:Option Nat) (x y:X):BN P K (⟨d,.Oj x y,none⟩::r) F L σ=XPv (bE (xv F x) (xv F y)) d (BN P K r) F L σ:=rfl
theorem AD7 (d:Option Nat) (x:X):BN P K (⟨d,.len x,none⟩::r) F L σ=XPv (Tz (xv F x)) d (BN P K r) F L σ:=rfl
theorem ABN (d:Option Nat) (x:X):BN P K (⟨d,.Lp x,none⟩::r) F L σ=XPv (eY (xv F x)) d (BN P K r) F L σ:=rfl
theorem AD0 (d:Option Nat) (op:BinOp) (x y:X):BN P K (⟨d,.bin op x y,none⟩::r) F L σ=XPv (qN op (xv F x) (xv F y)) d (BN P K r) F L σ:=rfl
theorem ABE (d:Option Nat) (op:BinOp) (x y:X):BN P K (⟨d,.tS op x y,none⟩::r) F L σ=XPv (dR op (xv F x) (xv F y)) d (BN P K r) F L σ:=rfl
theorem AFT (d:Option Nat) (op:UnOp) (x:X):BN P K (⟨d,.un op x,none⟩::r) F L σ=XPv (unA op (xv F x)) d (BN P K r) F L σ:=rfl
theorem ABJ (d:Option Nat) (k:IntKind) (x:X):BN P K (⟨d,.conv k x,none⟩::r) F L σ=XPv (dW k (xv F x)) d (BN P K r) F L σ:=rfl
theorem AD1 (d:Option Nat) (z:List AV) (ps:List (Nat×Nat×X)):BN P K (⟨d,.bld z ps,none⟩::r) F L σ=XPv ((Ip z F ps).map .agg) d (BN P K r) F L σ:=rfl
theorem AD3 (d:Option Nat) (s n:Nat) (z:List AV) (ps:List (Nat×Nat×X)):BN P K (⟨d,.bsl s n z ps,none⟩::r) F L σ=XPv (((Ip z F ps).bind dvs).map fun l=>.d (.sl (chunk s n l))) d (BN P K r) F L σ:=rfl
theorem AD8 (d:Option Nat) (f:FuncId) (x y:List X):BN P K (⟨d,.mkf f x y,none⟩::r) F L σ=XPv (if (xvs F x++xvs F y).all AV.BL then some (.fn f (xvs F x) (xvs F y)) else none) d (BN P K r) F L σ:=rfl
theorem AD4 (d:Option Nat) (x:X) (i:Nat):BN P K (⟨d,.ext x i,none⟩::r) F L σ=XPv (q6 (xv F x) i) d (BN P K r) F L σ:=rfl
theorem AEB (d:Option Nat) (x:X):BN P K (⟨d,.nck x,none⟩::r) F L σ=XPv (vR (xv F x)) d (BN P K r) F L σ:=rfl
theorem AFQ (d:Option Nat) (b:Bool) (x y:X):BN P K (⟨d,.mm b x y,none⟩::r) F L σ=XPv (mmA b (xv F x) (xv F y)) d (BN P K r) F L σ:=rfl
theorem AD2 (d:Nat) (x:X):BN P K (⟨some d,.box x false,none⟩::r) F L σ=(Ag (xv F x).cells=true∧BN P K r (put d (.lp d 0) (DS d F)) (Aq d (xv F x).cells L) σ):=rfl
theorem AFH (d:Nat) (z:List AV):BN P K (⟨some d,.al z false,none⟩::r) F L σ=(Ag z=true∧BN P K r (put d (.lp d 0) (DS d F)) (Aq d z L) σ):=rfl
theorem ABF (d:Nat) (x:X):BN P K (⟨some d,.box x true,none⟩::r) F L σ=(Ag (xv F x).cells=true∧∀i,σ.blk i=none→BN P K r (put d (.gp i 0) F) L (σ.AH i (xv F x).cells)):=rfl
theorem ADY (d:Nat) (z:List AV):BN P K (⟨some d,.al z true,none⟩::r) F L σ=(Ag z=true∧∀i,σ.blk i=none→BN P K r (put d (.gp i 0) F) L (σ.AH i z)):=rfl
def ACA (K:Cd) (F:Fm):Option (Lm×AK)→Prop
 |some (L',σ')=>K F L' σ'
 |none=>False
theorem yF (F:Fm) (L':Lm) (σ':AK):ACA K F (some (L',σ'))=K F L' σ':=rfl
theorem AFS (x v:X) (n:Nat):BN P K (⟨none,.st x v n,none⟩::r) F L σ=(Ag (xv F v).cells=true∧(xv F v).cells.length=n∧ACA (BN P K r) F (stA L σ (xv F v).cells (xv F x))):=by
 show XSt _ _ _ _ _ _ _ _=_
 unfold XSt ACA
 simp only [true_and]
 cases stA L σ (xv F v).cells (xv F x)<;>rfl
theorem AFK (d:Option Nat) (o:O) (s:Nat) (want:Bool):BN P K (⟨d,o,some (s,want)⟩::r) F L σ=XG (gdV want (F s)) (BN P K (⟨d,o,none⟩::r) F L σ) (BN P K r (At d (.tup []) F) L σ):=rfl
theorem AFN (d:Option Nat) (o:O) (s:Nat) (want:Bool) (h:gdV want (F s)=some true):BN P K (⟨d,o,some (s,want)⟩::r) F L σ=BN P K (⟨d,o,none⟩::r) F L σ:=by rw [AFK,h];rfl
theorem AFL (d:Option Nat) (o:O) (s:Nat) (want:Bool) (h:gdV want (F s)=some false):BN P K (⟨d,o,some (s,want)⟩::r) F L σ=BN P K r (At d (.tup []) F) L σ:=by rw [AFK,h];rfl
theorem AEX (want b:Bool):gdV want (.d (.bool b))=some (b==want):=rfl
theorem AEY (want:Bool):gdV want (.tup [])=some false:=rfl
theorem sP (d:Nat) (v:AV) (F:Fm):At (some d) v F=put d v F:=rfl
theorem ABI (d:Option Nat) (f:FuncId) (args:List X):BN P K (⟨d,.call f args,none⟩::r) F L σ=AD P f (xvs F args) d (BN P K r) F L σ:=rfl
theorem yD (d:Option Nat) (f:FuncId) (args:List X):BN P K (⟨d,.Xx f args,none⟩::r) F L σ=ZK P f (xvs F args) d (BN P K r) F L σ:=rfl
theorem ADZ (d:Option Nat) (e s b:Nat) (x y:X):BN P K (⟨d,.app e s b x y,none⟩::r) F L σ=JJ e s b (xv F x) (xv F y) d (BN P K r) F L σ:=rfl
def AB4 (P:Program) (x:AV) (args:List AV) (dst:Option Nat) (K:Cd) (F:Fm) (L:Lm) (σ:AK):Prop:=
 ∃f first caps,x= .fn f first caps∧Av P f=true∧AD P f (first++args++caps) dst K F L σ
theorem yC (d:Option Nat) (x:X) (args:List X):BN P K (⟨d,.E2 x args,none⟩::r) F L σ=AB4 P (xv F x) (xvs F args) d (BN P K r) F L σ:=rfl
theorem AEA (d:Option Nat) (e s b:Nat) (z:List AV) (x y:X):BN P K (⟨d,.msl e s b z x y,none⟩::r) F L σ=tJ e s b z (xv F x) (xv F y) d (BN P K r) F L σ:=rfl
theorem ABD (d:Option Nat) (e s b:Nat) (x y:X):BN P K (⟨d,.cF e s b x y,none⟩::r) F L σ=hY e s b (xv F x) (xv F y) d (BN P K r) F L σ:=rfl
theorem AEF (d:Option Nat) (x y:X):BN P K (⟨d,.trn x y,none⟩::r) F L σ=ACB (xv F x) (xv F y) d (BN P K r) F L σ:=rfl
theorem ABH (d:Option Nat) (e s n:Nat) (z:List AV) (ps:List (Nat×Nat×X)):BN P K (⟨d,.Jr e s n z ps,none⟩::r) F L σ=Fh e s n (Ip z F ps) d (BN P K r) F L σ:=rfl
theorem AD6 (d:Option Nat) (x:X) (n:Option Nat):BN P K (⟨d,.ldl x n,none⟩::r) F L σ=XPv (gC L (xv F x) n) d (BN P K r) F L σ:=rfl
theorem AFJ (d:Option Nat) (x:X) (o:Nat) (n:Option Nat):BN P K (⟨d,.fd x o n,none⟩::r) F L σ=XPv (fdA (xv F x) o n) d (BN P K r) F L σ:=rfl
theorem AEE (d:Option Nat) (x:X) (a b:Option X):BN P K (⟨d,.ssl x a b,none⟩::r) F L σ=XPv (TS (xv F x) (a.map (xv F)) (b.map (xv F))) d (BN P K r) F L σ:=rfl
theorem AED (d:Option Nat) (x:X) (a b c:Option X) (n:Nat):BN P K (⟨d,.sls x a b c n,none⟩::r) F L σ=XPv (sV (xv F x) (a.map (xv F)) (b.map (xv F)) (c.map (xv F)) n) d (BN P K r) F L σ:=rfl
theorem ABL (d:Option Nat) (ne:Bool) (x:X):BN P K (⟨d,.nA ne x,none⟩::r) F L σ=XPv (eN ne (xv F x)) d (BN P K r) F L σ:=rfl
theorem ABO (d:Option Nat) (ne:Bool) (n:Nat) (x y:X):BN P K (⟨d,.nV ne n x y,none⟩::r) F L σ=XPv (fB ne n (xv F x) (xv F y)) d (BN P K r) F L σ:=rfl
theorem AD9 (d:Option Nat) (b:Bool) (x y z:X):BN P K (⟨d,.mm3 b x y z,none⟩::r) F L σ=XPv ((mmA b (xv F x) (xv F y)).bind fun v=>mmA b v (xv F z)) d (BN P K r) F L σ:=rfl
theorem ABG (d:Option Nat) (x:X):BN P K (⟨d,.tT x,none⟩::r) F L σ=XPv ((dvs (xv F x).cells).map fun ds=>.d (.ptr ds)) d (BN P K r) F L σ:=rfl
theorem AFI (d:Option Nat) (k:EK) (xs:List X):BN P K (⟨d,.ex k xs,none⟩::r) F L σ=XEx k (xvs F xs) d (BN P K r) F L σ:=rfl
theorem ABB (d:Option Nat) (args:List AV):XEx .cap args d K F L σ=XPv (exP .cap args) d K F L σ:=rfl
theorem ABA (d:Option Nat) (args:List AV):XEx .b2s args d K F L σ=XPv (exP .b2s args) d K F L σ:=rfl
theorem ABC (d:Option Nat) (args:List AV):XEx .usd args d K F L σ=XPv (exP .usd args) d K F L σ:=rfl
theorem AA9 (d:Nat) (t:Nat) (z:List AV):XEx (.alt t z) [] (some d) K F L σ=(Ag z=true∧∀i,(σ.blk i=none∧σ.bt i=none)→K (put d (.gp i 0) F) L ((σ.AH i z).HI i (z.length,t))):=by
 simp only [XEx,EK.pure,AL,if_false,Lv,true_and,ExR,At]
theorem XEx.iD {d:Nat} {t n:Nat} {v:AV} (hn:v.BL=true) (h1:Ag v.cells=true) (h2:v.cells.length=n) (h:∀i,(σ.blk i=none∧σ.bt i=none)→K (put d (.gp i 0) F) L ((σ.AH i v.cells).HI i (n,t))):XEx (.iD t n) [v] (some d) K F L σ:=by
 refine ⟨by simp [hn],?_⟩
 exact ⟨⟨h1,h2⟩,h⟩
theorem XEx.kG {d:Nat} {ne b:Bool} {v:AV} (hn:v.BL=true) (hv:mN v=some b) (h:K (put d (.d (.bool (b != ne))) F) L σ):XEx (.kG ne) [v] (some d) K F L σ:=by
 refine ⟨by simp [hn],?_⟩
 show (match mN v with|some b=>_|none=>_)
 rw [hv];exact h
theorem XEx.apps {d:Option Nat} {e:Nat} {s:AV} {x:List UInt8} {rows:List (List DV)} {σ1:AK} (hn:s.BL=true) (ha:QA σ e 1 s=some (rows,σ1)) (hl:rows.length+x.length≤140737488355328)
 (h:∀t,σ.tok t=false→K (At d (.own t e 1 (rows++BI x)) F) L (σ1.CO t)):XEx (.apps e) [s,.d (.str x)] d K F L σ:=
 ⟨by rw [CC,hn];rfl,rows,σ1,ha,hl,h⟩
theorem XEx.qI {d:Option Nat} {e size bytes:Nat} {z:List AV} {k:IntKind} {n:Nat} (h0:0 < n) (hb:bytes≤10000) (hn:n≤1000000000)
 (h:∀j,σ.blk j=none→K (At d (.ms j n size e) F) L (σ.AH j (Ai n z).flatten)):XEx (.qI e size bytes z) [.AO,.d (.int k n)] d K F L σ:=by
 refine ⟨rfl,by omega,?_,by omega,?_⟩
 · have h1:n * bytes≤1000000000 * 10000:=Ol hn hb
   have h2:((n * bytes:Nat):Int)≤((1000000000 * 10000:Nat):Int):=Int.ofNat_le.2 h1
   rw [Int.natCast_mul] at h2
   exact Int.le_trans h2 (by decide)
 · simpa using h
theorem XEx.kM {d:Option Nat} {e t:Nat} {s:List UInt8} {n:Int} (hl:n=s.length) (h0:s≠[]) (ht:σ.tok t=true) (h:K (At d (.d (.str s)) F) L (σ.FL t)):XEx (.kM e) [.bp t e s,.d (.int .i64 n)] d K F L σ:=
 ⟨rfl,⟨rfl,hl⟩,h0,ht,h⟩
theorem hY.mk {d:Option Nat} {e size bytes n:Nat} {s x:AV} {cs:List AV} {srows:List (List DV)} {σ1:AK} (h1:UO σ e size s=some (n,cs,σ1)) (h2:x.rows=some srows)
 (h3:∀r∈srows,r.length=size) (h4:srows≠[]) (h5:n+srows.length≤1000000000) (hb:bytes≤10000)
 (h:∀j,σ.blk j=none→K (At d (.ms j (n+srows.length) size e) F) L (σ1.AH j (cs++H6 srows))):hY e size bytes s x d K F L σ:=
 ⟨n,cs,σ1,srows,h1,h2,h3,fun e=>absurd e h4,by simp only [maxLen];omega,by
   calc (n+srows.length) * bytes≤1000000000 * 10000:=Ol h5 hb
    _≤140737488355328:=by decide,fun _=>h⟩
theorem Fh.mk {d:Option Nat} {e s n:Nat} {cs:List AV} (h:∀j,σ.blk j=none→K (At d (.ms j n s e) F) L (σ.AH j cs)):Fh e s n (some cs) d K F L σ:=⟨cs,rfl,.inl h⟩
theorem Fh.own {d:Option Nat} {e s n:Nat} {cs:List AV} {ds:List DV} (hd:dvs cs=some ds) (hn:0 < n) (h:∀t,σ.tok t=false→K (At d (.own t e s (chunk s n ds)) F) L (σ.CO t)):Fh e s n (some cs) d K F L σ:=⟨cs,rfl,.inr ⟨ds,hd,hn,h⟩⟩
theorem yN (n:Nat):YN n none none=some (0,n):=by simp [YN]
theorem tJ.mk {d:Option Nat} {e s b:Nat} {z:List AV} (n:Nat) (hb:b * n≤281474976710656) (hn:n≤9223372036854775807) (h:∀i,σ.blk i=none→K (At d (.ms i n s e) F) L (σ.AH i (Ai n z).flatten)):
 tJ e s b z (.d (.int .i64 n)) (.d (.int .i64 n)) d K F L σ:=
 ⟨.i64,.i64,n,rfl,rfl,by omega,by rw [← Int.natCast_mul];omega,by omega,fun i hi=>by simpa using h i hi⟩
theorem AD.mk {d:Option Nat} {f:FuncId} {args:List AV} {Q:AV→AK→Prop} (hn:args.all AV.BL=true) (h:AP P f args σ Q) (hk:∀v σ',Q v σ'→K (At d v F) L σ'):
 AD P f args d K F L σ:=⟨hn,Q,h,hk⟩
theorem ZK.mk {d:Option Nat} {f:FuncId} {args:List AV} {v:AV} (hn:args.all AV.BL=true) (h:AP P f args σ (fun v' σ'=>v'=v∧σ'=σ)) (hk:K (At d v F) L σ) (hv:v.BL=true:=by rfl):
 ZK P f args d K F L σ:=⟨hn,v,⟨hv,h⟩,hk⟩
theorem JJ.mk {d:Option Nat} {e size bytes:Nat} {s x:AV} {rows srows:List (List DV)} {σ1:AK} (h1:QA σ e size s=some (rows,σ1)) (h2:x.rows=some srows)
 (h3:∀r∈srows,r.length=size) (h4:rows.length+srows.length≤maxLen) (h5:(rows.length+srows.length) * bytes≤140737488355328)
 (h:∀t,σ.tok t=false→K (At d (.own t e size (rows++srows)) F) L (σ1.CO t)):JJ e size bytes s x d K F L σ:= .inl ⟨rows,σ1,srows,h1,h2,h3,h4,h5,h⟩
theorem JJ.clip {d:Option Nat} {e size bytes:Nat} {x:AV} {rows srows:List (List DV)} (h2:x.rows=some srows)
 (h3:∀r∈rows,r.length=size) (h3':∀r∈srows,r.length=size) (h4:rows.length+srows.length≤1000000000) (hb:bytes≤10000)
 (h:K (At d (.d (.sl (rows++srows))) F) L σ):JJ e size bytes (.clip rows) x d K F L σ:=
 .inr ⟨rows,srows,rfl,h2,h3,h3',by simp only [maxLen];omega,by
  calc (rows.length+srows.length) * bytes≤1000000000 * 10000:=Ol h4 hb
   _≤140737488355328:=by decide,h⟩
theorem AP.args {f:FuncId} {args args':List AV} {Q:AV→AK→Prop} (h:AP P f args' σ Q) (hw:∀g vs,VRs g args vs→VRs g args' vs):AP P f args σ Q:=
 fun base g Pr w0 w vs hr hv=>h base g Pr w0 w vs hr (hw g vs hv)
theorem ZJ:∀(ops:List Q) {K K':Cd} {F:Fm} {L:Lm} {σ:AK},(∀F L σ,K F L σ→K' F L σ)→BN P K ops F L σ→BN P K' ops F L σ
 |[],_,_,_,_,_,hk,hx=>hk _ _ _ hx
 |q::rest,K,K',F,L,σ,hk,hx=>by
  have hx:XG (gd F q.grd) (XO P q.dst (BN P K rest) F L σ q.o) (BN P K rest (At q.dst (.tup []) F) L σ):=hx
  show XG (gd F q.grd) (XO P q.dst (BN P K' rest) F L σ q.o) (BN P K' rest (At q.dst (.tup []) F) L σ)
  cases hc:gd F q.grd with
  |none=>rw [hc] at hx;exact hx.elim
  |some b=>
   rw [hc] at hx
   cases b
   · exact ZJ rest hk hx
   · exact kU (fun F L σ h=>ZJ rest hk h) hx
def Cut (live:List Nat) (F0:Fm) (L0:Lm) (σ0:AK):Cd:=fun F L σ=>Wy live F=F0∧Sy live L=L0∧σ=σ0
theorem Run.ADM {cx:Cx} {KK:AV→AK→Prop} {k:List CI} {ops:List Q} {live:List Nat} (hm:cx.P.follows .mixedOrders=true) (F0:Fm) (L0:Lm) (σ0:AK)
 (h1:BN cx.P (Cut live F0 L0 σ0) ops F L σ) (h2:Run cx KK k F0 L0 σ0):Run cx KK (.code (.reg ops live)::k) F L σ:=
 Run.reg hm (ZJ ops (fun F L σ h=>by obtain ⟨e1,e2,e3⟩:=h;show Run cx KK k (Wy live F) (Sy live L) σ;rw [e1,e2,e3];exact h2) h1)
theorem nU {P:Program} {m m1 m':Machine} (h:step P m= .next m1) (hs:Steps P m m') (hne:m≠m'):Steps P m1 m':=by
 obtain ⟨n,hn⟩:=hs
 cases n with
 |zero=>simp only [runN] at hn;cases hn;exact absurd rfl hne
 |succ n=>simp only [runN,h] at hn;exact ⟨n,hn⟩
theorem Run.BU {cx:Cx} {KK:AV→AK→Prop} {k:List CI} {c:C} (h:Run cx KK (.again c::k) F L σ):Run cx KK (.code (.loop c)::k) F L σ:=by
 intro items base g lam Pr a w0 w b cs hi hf hb hk
 obtain ⟨p,ys,rfl,⟨p1,rfl,h1⟩,hys⟩:=hi.code
 obtain ⟨v,w',fr,hs,hfn,hl,rest⟩:=h (.inLoop p1::ys) base g lam Pr a w0 w b cs (.cons ⟨p1,rfl,h1⟩ hys) hf hb hk
 refine ⟨v,w',fr,.head step_loop (nU step_inLoop hs fun e=>?_),hfn,hl,rest⟩
 have h2:(lone (b.at a (.inLoop p1::ys)) cs w).gs=(lone fr cs w').gs:=by rw [e]
 simp only [lone,Array.mk.injEq,List.cons.injEq,Goroutine.mk.injEq] at h2
 have h3:(b.at a (.inLoop p1::ys)).mode=fr.mode:=by rw [h2.1.1]
 rw [hl.1] at h3
 cases h3
def ZI (v:AV) (A B:Prop):Prop:=
 match v with
 | .d (.bool b)=>(b=true→A)∧(b=false→B)
 |_=>False
theorem AA6 (b:Bool) (A B:Prop):ZI (.d (.bool b)) A B=((b=true→A)∧(b=false→B)):=rfl
theorem AA8 (A B:Prop):ZI (.d (.bool true)) A B=A:=by simp [ZI]
theorem AA7 (A B:Prop):ZI (.d (.bool false)) A B=B:=by simp [ZI]
theorem Run.AEP {cx:Cx} {KK:AV→AK→Prop} {k:List CI} {x:X} {t e:C} (h:ZI (xv F x) (Run cx KK (.code t::k) F L σ) (Run cx KK (.code e::k) F L σ)):Run cx KK (.code (.cond x t e)::k) F L σ:=by
 cases hx:xv F x<;>rw [hx] at h<;>try exact h.elim
 rename_i dv
 cases dv<;>try exact h.elim
 exact Run.cond hx h.1 h.2
mutual
def AV.plain:AV→AV
 | .AO=>.d (.sl [])
 | .FN=>.d .FN
 | .own _ _ _ rows=>.d (.sl rows)
 | .clip rows=>.d (.sl rows)
 | .agg cs=>.agg (AV.E7 cs)
 | .tup vs=>.tup (AV.E7 vs)
 |v=>v
def AV.E7:List AV→List AV
 |[]=>[]
 |v::l=>AV.plain v::AV.E7 l
end
theorem gI (x:DV):AV.plain (AV.d x)=(AV.d x):=by simp only [AV.plain]
theorem VH:AV.plain AV.AO= .d (.sl []):=by simp only [AV.plain]
theorem sI (t e s:Nat) (r:List (List DV)):AV.plain (AV.own t e s r)= .d (.sl r):=by simp only [AV.plain]
theorem mX (r:List (List DV)):AV.plain (AV.clip r)= .d (.sl r):=by simp only [AV.plain]
theorem XD (r:List AV):AV.plain (AV.agg r)= .agg (AV.E7 r):=by simp only [AV.plain]
theorem wF (j o:Nat):AV.plain (AV.lp j o)=(AV.lp j o):=by simp only [AV.plain]
theorem wE (j o:Nat):AV.plain (AV.gp j o)=(AV.gp j o):=by simp only [AV.plain]
theorem wD (r:List DV) (o:Nat):AV.plain (AV.ep r o)=(AV.ep r o):=by simp only [AV.plain]
theorem mZ:AV.plain AV.FN= .d .FN:=by simp only [AV.plain]
theorem wG (i n s e:Nat):AV.plain (AV.ms i n s e)=(AV.ms i n s e):=by simp only [AV.plain]
theorem wH (i o n s e:Nat):AV.plain (AV.mv i o n s e)=(AV.mv i o n s e):=by simp only [AV.plain]
theorem wC (t e:Nat) (s:List UInt8):AV.plain (AV.bp t e s)=(AV.bp t e s):=by simp only [AV.plain]
theorem mY:AV.plain AV.PY=AV.PY:=by simp only [AV.plain]
theorem plain_fn (f:FuncId) (x y:List AV):AV.plain (AV.fn f x y)=(AV.fn f x y):=by simp only [AV.plain]
theorem sJ (x:List AV):AV.plain (AV.tup x)= .tup (AV.E7 x):=by simp only [AV.plain]
theorem jO:AV.plain AV.undef=AV.undef:=by simp only [AV.plain]
theorem N4:∀(l:List AV) (i:Nat),(AV.E7 l)[i]?=(l[i]?).map AV.plain
 |[],i=>by simp [AV.E7]
 |v::l,0=>by simp [AV.E7]
 |v::l,i+1=>by simp [AV.E7,N4 l i]
theorem VI:∀l:List AV,(AV.E7 l).length=l.length
 |[]=>rfl
 |v::l=>by simp [AV.E7,VI l]
theorem VG {v:AV} (h:v.CB=true):v.plain.CB=true:=by cases v<;>first|rfl|(cases h;done)
theorem VR.plain {g:Gh} {x:AV} {v:Value} (h:VR g x v):VR g x.plain v:=by
 induction h with
 |d h=>simpa [AV.plain] using VR.d h
 |AO=>exact .d (.nil (C3 _) (fun _=>rfl))
 |own h _ _=>exact .d h
 |clip h=>exact .d h
 |@agg cs vs hl hc _ ih=>
  refine .agg (by rw [VI];exact hl) (fun c hcm=>?_) (fun i c v hci hvi=>?_)
  · obtain ⟨i,hi,rfl⟩:=Cp hcm
    have:=N4 cs i
    rw [Az hi] at this
    cases hcs:cs[i]? with
    |none=>rw [hcs] at this;cases this
    |some c'=>rw [hcs] at this;simp only [Cf,AQ] at this;rw [this];exact VG (hc c' (Aa hcs))
  · rw [N4] at hci
    cases hcs:cs[i]? with
    |none=>rw [hcs] at hci;cases hci
    |some c'=>rw [hcs] at hci;simp only [Cf,AQ] at hci;rw [← hci];exact ih i c' v hcs hvi
 |gp h=>simpa [AV.plain] using VR.gp h
 |ep hi hr=>simpa [AV.plain] using VR.ep hi hr
 |FN=>exact .d .FN
 |PY=>simpa [AV.plain] using VR.PY
 |ms h hr hn hm=>simpa [AV.plain] using VR.ms h hr hn hm
 |mv h hr hn hm ho=>simpa [AV.plain] using VR.mv h hr hn hm ho
 |bp h k=>simpa [AV.plain] using VR.bp h k
 |fn hl hl' h h' _ _=>simpa [AV.plain] using VR.fn hl hl' h h'
 |@tup cs vs hl _ ih=>
  refine .tup (by rw [VI];exact hl) (fun i c v hci hvi=>?_)
  rw [N4] at hci
  cases hcs:cs[i]? with
  |none=>rw [hcs] at hci;cases hci
  |some c'=>rw [hcs] at hci;simp only [Cf,AQ] at hci;rw [← hci];exact ih i c' v hcs hvi
 |undef=>simpa [AV.plain] using VR.undef
theorem VRs.plain {g:Gh} {xs:List AV} {vs:List Value} (h:VRs g xs vs):VRs g (AV.E7 xs) vs:=by
 induction h with
 |nil=>exact .nil
 |cons h _ ih=>exact .cons h.plain ih
theorem AP.plain {f:FuncId} {args:List AV} {Q:AV→AK→Prop} (h:AP P f (AV.E7 args) σ Q):AP P f args σ Q:=
 fun base g Pr w0 w vs hr hv=>h base g Pr w0 w vs hr hv.plain
def AB9 (o:Option AV) (K:AV→AK→Prop) (σ:AK):Prop:=
 match o with
 |some v=>K v σ
 |none=>False
theorem tH (v:AV) (K:AV→AK→Prop) (σ:AK):AB9 (some v) K σ=K v σ:=rfl
theorem Run.A2 {cx:Cx} {KK:AV→AK→Prop} {k:List CI} {σ2:AK} (hg:Good cx) (hσ:σ2.le σ) (h:AB9 ((gP F L σ cx.rs).map AV.plain) KK σ2):Run cx KK (.code .ret::k) F L σ:=by
 cases hr:gP F L σ cx.rs with
 |none=>rw [hr] at h;exact h.elim
 |some v=>rw [hr] at h;exact Run.ret hg hr (fun _ _ h=>h.plain) hσ h
theorem Run.FT {cx:Cx} {KK:AV→AK→Prop} {k:List CI} {σ2:AK} (hg:Good cx) (hσ:σ2.le σ) (h:AB9 (gP F L σ cx.rs) KK σ2):Run cx KK (.code .ret::k) F L σ:=by
 cases hr:gP F L σ cx.rs with
 |none=>rw [hr] at h;exact h.elim
 |some v=>rw [hr] at h;exact Run.ret hg hr (fun _ _ h=>h) hσ h
theorem AZ (σ:AK) (i j:Nat) (cs:List AV):(σ.AH i cs).blk j=if j=i then some cs else σ.blk j:=rfl
theorem AN (σ:AK) (i:Nat) (cs ds:List AV):(σ.AH i cs).AH i ds=σ.AH i ds:=by
 unfold AK.AH
 congr 1
 funext j
 by_cases h:j=i<;>simp [h]
theorem JA {σ:AK} {i:Nat} {cs:List AV} (h:σ.blk i=some cs):σ.AH i cs=σ:=by
 unfold AK.AH
 cases σ
 congr 1
 funext j
 split
 · rename_i e;subst e;exact h.symm
 · rfl
theorem Ep (σ:AK) (t i:Nat):(σ.CO t).blk i=σ.blk i:=rfl
theorem lO (σ:AK) (t i:Nat):(σ.FL t).blk i=σ.blk i:=rfl
theorem AK.le_trans {a b c:AK} (h:a.le b) (k:b.le c):a.le c:=⟨fun i cs x=>k.blk i cs (h.blk i cs x),fun t x=>k.tok t (h.tok t x),h.gt.trans k.gt,fun i x hx=>k.bt i x (h.bt i x hx)⟩
theorem FO {σ:AK} {i:Nat} {cs:List AV} (h:σ.blk i=none):σ.le (σ.AH i cs):=
 ⟨fun j ds hj=>by
   have:j≠i:=fun e=>by rw [e,h] at hj;cases hj
   rw [AZ,if_neg this];exact hj,fun _ h=>h,rfl,fun _ _ h=>h⟩
structure Cg (σ:AK) (e s:Nat) (rows:List (List DV)) (v:AV) (σ':AK):Prop where
 app:∃σ1,QA σ' e s v=some (rows,σ1)∧σ.le σ1
 le:σ.le σ'
 plain:v.plain= .d (.sl rows)
 len:Tz v=some (.d (.int .i64 rows.length))
 cell:v.CB=true
 BL:v.BL=true
 DF:∀k,v.DF k=false
 dv:v.dv=some (.sl rows)
 cells:v.cells=[v]
theorem Cg.nil (σ:AK) (e s:Nat):Cg σ e s [] .AO σ:=
 ⟨⟨σ,rfl,AK.le_refl σ⟩,AK.le_refl σ,rfl,rfl,rfl,rfl,fun _=>rfl,rfl,rfl⟩
theorem Cg.own {σ σ1 σ':AK} {e s t:Nat} {rows:List (List DV)} (hle:σ.le σ1) (hle':σ.le σ') (ht:σ'.tok t=false):Cg σ e s rows (.own t e s rows) (σ1.CO t):=by
 have hnt:σ.tok t=false:=by
  cases h:σ.tok t with
  |false=>rfl
  |true=>rw [hle'.tok t h] at ht;cases ht
 refine ⟨⟨(σ1.CO t).FL t,by simp [QA,AK.CO],⟨fun i cs h=>hle.blk i cs h,fun t' h=>?_,hle.gt,hle.bt⟩⟩,⟨fun i cs h=>hle.blk i cs h,fun t' h=>?_,hle.gt,hle.bt⟩,rfl,rfl,rfl,rfl,fun _=>rfl,rfl,rfl⟩
 · have hne:t'≠t:=fun e=>by rw [e,hnt] at h;cases h
   simp [AK.FL,AK.CO,hne,hle.tok t' h]
 · have hne:t'≠t:=fun e=>by rw [e,hnt] at h;cases h
   simp [AK.CO,hne,hle.tok t' h]
theorem JJ.own {σ0:AK} {d:Option Nat} {e size bytes:Nat} {s x:AV} {rows srows:List (List DV)} (ho:Cg σ0 e size rows s σ) (h2:x.rows=some srows)
 (h3:∀r∈srows,r.length=size) (h4:rows.length+srows.length≤1000000000) (hb:bytes≤10000)
 (h:∀v σ',Cg σ0 e size (rows++srows) v σ'→(∀i,σ'.blk i=σ.blk i)→K (At d v F) L σ'):JJ e size bytes s x d K F L σ:=by
 obtain ⟨σ1,ha,hl⟩:=ho.app
 refine JJ.mk ha h2 h3 (by simp only [maxLen];omega) ?_ (fun t ht=>h _ _ (Cg.own hl ho.le ht) (fun i=>?_))
 · calc (rows.length+srows.length) * bytes≤1000000000 * 10000:=Ol h4 hb
    _≤140737488355328:=by decide
 · rw [Ep]
   unfold QA at ha
   split at ha
   · cases ha;rfl
   · split at ha
     · cases ha;rfl
     · cases ha
   · cases ha
variable {cx:Cx} {KK:AV→AK→Prop} {k:List CI}
theorem Run.facts {p:Prop} (hp:∀base g lam Pr a w0 w,B2 base g lam Pr cx.N F L σ a w0 w→p) (h:p→Run cx KK k F L σ):Run cx KK k F L σ:=
 fun items base g lam Pr a w0 w b cs hi hf hb hk=>h (hp base g lam Pr a w0 w hf) items base g lam Pr a w0 w b cs hi hf hb hk
def AV.Fc:AV→Prop
 | .d (.sl rows)=>rows.length≤9223372036854775807
 | .d (.str s)=>s.length≤9223372036854775807
 | .d (.int k n)=>k.min≤n∧n≤k.max
 | .own _ _ _ rows=>rows.length≤9223372036854775807
 | .clip rows=>rows.length≤9223372036854775807
 |_=>True
theorem VR.Fc {g:Gh} {x:AV} {v:Value} (h:VR g x v):x.Fc:=by
 cases h with
 |d h=>
  cases h with
  |int h=>exact h
  |bool=>trivial
  |str h=>exact h
  |nil=>simp [AV.Fc]
  |sl hc hm _ _ _=>exact Ay hc hm
  |ptr=>trivial
  |FN=>trivial
 |own h _ _=>obtain ⟨_,_,_,h2⟩:=h.Kn;exact h2
 |clip h=>obtain ⟨_,_,_,h2⟩:=h.Kn;exact h2
 |_=>trivial
theorem SV.Fc {g:Gh} {lam:Nat→Option Nat} {x:AV} {v:Value} (h:SV g lam x v):x.Fc:=by
 cases x<;>first|exact VR.Fc h|trivial
theorem Run.slot (s:Nat) (h:(F s).Fc→Run cx KK k F L σ):Run cx KK k F L σ:=
 Run.facts (fun _ _ _ _ _ _ _ hf=>(hf.tm s).Fc) h
theorem Run.cell (j o:Nat) {cs:List AV} {c:AV} (hL:L j=some cs) (hc:cs[o]?=some c) (h:c.Fc→Run cx KK k F L σ):Run cx KK k F L σ:=
 Run.facts (fun _ _ _ _ _ _ _ hf=>by
  obtain ⟨_,b,vs,ty,_,_,_,hr⟩:=hf.loc j cs hL
  obtain ⟨v,_,hv⟩:=hr.at o c hc
  exact hv.Fc) h
end Go.Ab
