/- Compact code, its runs at the abstract level, and contracts out of runs. Equations that run compact code at the abstract level. Conditions: none. -/
import Derived.Scope
import Derived.Test.YtlckhmkeihbhmaaGreatXAb10d
set_option linter.unusedSimpArgs false
set_option linter.unusedVariables false
set_option maxRecDepth 4000
set_option maxHeartbeats 8000000
open List renaming range→Ae,all_cons→BU,getD_eq_getElem?_getD→BQ,getElem?_eq_some_iff→AR,mem_cons→Bf,all_nil→Cr,replicate→AG,getElem_of_mem→DH,getElem?_eq_getElem→BH,mem_of_getElem?→AT
open Option.some renaming injEq→AK
open Prod.mk renaming injEq→B6
open Option renaming getD_some→Nk,map_eq_some_iff→AE,bind_eq_some_iff→AB,bind_eq_bind→AN,map_some→Bn
open Go renaming undef→Cc
open Bool renaming and_eq_true→AQ,false_eq_true→AZ
open Nat renaming le_refl→A0,mul_le_mul→MD,zero_le→Ck,le_trans→BR
open Array renaming replicate→EL,getD_eq_getD_getElem?→Ca
namespace Go.Ab
open Go.RowKit
inductive C where
 |skip
 |reg (ops:List Q) (live:List Nat)
 |Sa (t:QT) (live:List Nat)
 |seq (x y:C)
 |cond (x:X) (t e:C)
 |block (id:Nat) (c:C)
 |loop (c:C)
 |exit (id:Nat)
 |ret
 |scope (c:C)
 |bad
inductive CI where
 |code (c:C)
 |blk (id:Nat)
 |scp
 |again (c:C)
def Z4 (P:Program) (N:Nat) (esc:List Nat) (pf:List FuncId) (live:List Nat) (pt:PT) (ops:Array Oper):Option C:=
 match pt with
 | .done=>(bQ P N esc pf (Ae ops.size) ops).map fun q=>.reg q live
 |pt=>(U8 P N esc pf pt ops).map fun t=>match lin t with
  |some q=>.reg q live
  |none=>.Sa t live
def GL (P:Program) (N:Nat) (esc:List Nat) (pf:List FuncId):Code→List (List Nat×PT)→Option (C×List (List Nat×PT))
 | .skip,ct=>some (.skip,ct)
 | .region _ ops false,(live,_)::ct=>some (((Kc P N esc ops (Ae ops.size)).map fun q=>C.reg q live).getD .bad,ct)
 | .region _ ops true,(live,pt)::ct=>some ((Z4 P N esc pf live pt ops).getD .bad,ct)
 | .seq x y,ct=>(GL P N esc pf x ct).bind fun r=>(GL P N esc pf y r.2).map fun r'=>(.seq r.1 r'.1,r'.2)
 | .cond c t e,ct=>(xo c).bind fun c'=>(GL P N esc pf t ct).bind fun r=>(GL P N esc pf e r.2).map fun r'=>(.cond c' r.1 r'.1,r'.2)
 | .block id c,ct=>(GL P N esc pf c ct).map fun r=>(.block id r.1,r.2)
 | .loop c,ct=>(GL P N esc pf c ct).map fun r=>(.loop r.1,r.2)
 | .exit id,ct=>some (.exit id,ct)
 | .ret,ct=>some (.ret,ct)
 | .scope c,ct=>(GL P N esc pf c ct).map fun r=>(.scope r.1,r.2)
 | .label _,ct=>some (.skip,ct)
 |_,_=>none
inductive RV where
 |t (n:Nat)
 |c (n:Nat) (k:Option Nat)
def Sy (P:Program):List ResultVar→Option (List RV)
 |[]=>some []
 | .tmp n::l=>do some (.t n::(← Sy P l))
 | .cell n t::l=>do
  let k ← ldN P t
  some (.c n k::(← Sy P l))
def rvA (F:Fm) (L:Lm) (σ:AF):RV→Option AV
 | .t n=>some (F n)
 | .c n k=>ldA L σ (F n) k
def aX (F:Fm) (L:Lm) (σ:AF):List RV→Option (List AV)
 |[]=>some []
 |r::l=>do some ((← rvA F L σ r)::(← aX F L σ l))
def Xj (F:Fm) (L:Lm) (σ:AF) (rs:List RV):Option AV:=
 (aX F L σ rs).bind fun vs=>if vs.all AV.BZ then (match vs with|[v]=>some v|vs=>some (.tup vs)) else none
def M4 (ks:List Nat) (F:Fm):Fm:=fun s=>if s∈ks then F s else .undef
def I1 (ks:List Nat) (L:Lm):Lm:=fun s=>if s∈ks then L s else none
variable {P:Program} {base N:Nat} {g g':Gh} {Pr:Nat→Prop} {σ σ':AF} {w0 w w':World} {lam:Nat→Option Nat} {F F':Fm} {L L':Lm} {a:Act}
theorem Bc.oA (h:Bc base g lam Pr N F L σ a w0 w) (hF:∀s,F' s=F s∨F' s= .undef) (hL:∀k cs,L' k=some cs→L k=some cs) (hσ:σ'.le σ):Bc base g lam Pr N F' L' σ' a w0 w:=by
 refine ⟨fun s=>?_,h.sz,h.df,fun k cs hk=>h.loc k cs (hL k cs hk),h.inj,h.npr,h.rel.less hσ⟩
 rcases hF s with e|e
 · rw [e];exact h.tm s
 · rw [e];exact VR.undef
theorem Bc.kept (h:Bc base g lam Pr N F L σ a w0 w) (ks:List Nat):Bc base g lam Pr N (M4 ks F) (I1 ks L) σ a w0 w:=
 h.oA (fun s=>by simp only [M4];split<;>simp) (fun k cs hk=>by simp only [I1] at hk;split at hk<;>simp_all) (AF.le_refl σ)
structure Cx where
 P:Program
 f:FuncId
 fn:Func
 N:Nat
 esc:List Nat
 pf:List FuncId
 rs:List RV
def RC (cx:Cx):C→Code→Prop
 | .skip,k=>k= .skip∨∃l,k= .label l
 | .scope c,k=>∃p,k= .scope p∧RC cx c p
 | .reg ops _,k=>∃id arr,(k= .region id arr false∧Kc cx.P cx.N cx.esc arr (Ae arr.size)=some ops)∨(k= .region id arr true∧∃order,bQ cx.P cx.N cx.esc cx.pf order arr=some ops)∨(k= .region id arr true∧∃pt t,U8 cx.P cx.N cx.esc cx.pf pt arr=some t∧lin t=some ops)
 | .Sa t _,k=>∃id arr pt,k= .region id arr true∧U8 cx.P cx.N cx.esc cx.pf pt arr=some t
 | .seq x y,k=>∃p q,k= .seq p q∧RC cx x p∧RC cx y q
 | .cond x t e,k=>∃c p q,k= .cond c p q∧xo c=some x∧RC cx t p∧RC cx e q
 | .block id c,k=>∃p,k= .block id p∧RC cx c p
 | .loop c,k=>∃p,k= .loop p∧RC cx c p
 | .exit id,k=>k= .exit id
 | .ret,k=>k= .ret
 | .bad,_=>True
theorem AX (cx:Cx):∀(k:Code) (ct:List (List Nat×PT)) (c:C) (ct':List (List Nat×PT)),GL cx.P cx.N cx.esc cx.pf k ct=some (c,ct')→RC cx c k
 | .skip,ct,c,ct',h=>by simp only [GL,AK,B6] at h;rw [← h.1];exact .inl rfl
 | .region id ops dr,ct,c,ct',h=>by
  cases ct with
  |nil=>cases dr<;>simp only [GL] at h<;>cases h
  |cons lo ct=>
   obtain ⟨live,order⟩:=lo
   cases dr
   · simp only [GL,AK,B6] at h
     obtain ⟨rfl,_⟩:=h
     cases hq:Kc cx.P cx.N cx.esc ops (Ae ops.size) with
     |none=>exact trivial
     |some qs=>exact ⟨id,ops,.inl ⟨rfl,hq⟩⟩
   · simp only [GL,AK,B6] at h
     obtain ⟨rfl,_⟩:=h
     cases hq:Z4 cx.P cx.N cx.esc cx.pf live order ops with
     |none=>exact trivial
     |some c'=>
     simp only [Nk]
     unfold Z4 at hq
     split at hq
     · simp only [AE] at hq
       obtain ⟨qs,hq',rfl⟩:=hq
       exact ⟨id,ops,.inr (.inl ⟨rfl,_,hq'⟩)⟩
     · simp only [AE] at hq
       obtain ⟨t,ht,rfl⟩:=hq
       cases hl:lin t with
       |some q=>exact ⟨id,ops,.inr (.inr ⟨rfl,_,t,ht,hl⟩)⟩
       |none=>exact ⟨id,ops,_,rfl,ht⟩
 | .seq x y,ct,c,ct',h=>by
  simp only [GL,AB,AE,B6] at h
  obtain ⟨⟨x',c1⟩,hx,⟨y',c2⟩,hy,rfl,_⟩:=h
  exact ⟨x,y,rfl,AX cx x _ _ _ hx,AX cx y _ _ _ hy⟩
 | .cond c t e,ct,c2,ct',h=>by
  simp only [GL,AB,AE,B6] at h
  obtain ⟨x,hx,⟨t',c1⟩,ht,⟨e',c3⟩,he,rfl,_⟩:=h
  exact ⟨c,t,e,rfl,hx,AX cx t _ _ _ ht,AX cx e _ _ _ he⟩
 | .block id p,ct,c,ct',h=>by
  simp only [GL,AE,B6] at h
  obtain ⟨⟨c',c1⟩,hc,rfl,_⟩:=h
  exact ⟨p,rfl,AX cx p _ _ _ hc⟩
 | .loop p,ct,c,ct',h=>by
  simp only [GL,AE,B6] at h
  obtain ⟨⟨c',c1⟩,hc,rfl,_⟩:=h
  exact ⟨p,rfl,AX cx p _ _ _ hc⟩
 | .exit id,ct,c,ct',h=>by simp only [GL,AK,B6] at h;rw [← h.1];rfl
 | .ret,ct,c,ct',h=>by simp only [GL,AK,B6] at h;rw [← h.1];rfl
 | .rangeFunc ..,ct,c,ct',h=>by simp only [GL] at h;cases h
 | .scope p,ct,c,ct',h=>by
  simp only [GL,AE,B6] at h
  obtain ⟨⟨c',c1⟩,hc,rfl,_⟩:=h
  exact ⟨p,rfl,AX cx p _ _ _ hc⟩
 | .label l,ct,c,ct',h=>by simp only [GL,AK,B6] at h;rw [← h.1];exact .inr ⟨l,rfl⟩
 | .goto _,ct,c,ct',h=>by simp only [GL] at h;cases h
 | .refuse _,ct,c,ct',h=>by simp only [GL] at h;cases h
def RI (cx:Cx):CI→Item→Prop
 | .code c,y=>∃k,y= .code k∧RC cx c k
 | .blk id,y=>y= .inBlock id
 | .scp,y=>∃k,y= .inScope k
 | .again c,y=>∃k,y= .inLoop k∧RC cx c k
inductive RIs (cx:Cx):List CI→List Item→Prop
 |nil:RIs cx [] []
 |cons {x:CI} {y:Item} {xs:List CI} {ys:List Item} (h:RI cx x y) (hs:RIs cx xs ys):RIs cx (x::xs) (y::ys)
def Good (cx:Cx):Prop:=cx.P.funcs[cx.f]?=some cx.fn∧Sy cx.P cx.fn.results.toList=some cx.rs
def Run (cx:Cx) (K:AV→AF→Prop) (todo:List CI) (F:Fm) (L:Lm) (σ:AF):Prop:=
 ∀(items:List Item) (base:Nat) (g:Gh) (lam:Nat→Option Nat) (Pr:Nat→Prop) (a:Act) (w0 w:World) (b:Frame) (cs:List Frame),
  RIs cx todo items→Bc base g lam Pr cx.N F L σ a w0 w→b.fn=cx.f→b.kind= .normal→
  ∃v w' fr,Steps cx.P (lone (b.at a items) cs w) (lone fr cs w')∧fr.fn=cx.f∧fr.leaving cx.P w' (.returned v)∧
   ∃av g' σ',VR g' av v∧Rel base g' Pr σ' w0 w'∧g.le g'∧KP Pr w w'∧K av σ'
variable {cx:Cx} {K:AV→AF→Prop} {k:List CI}
theorem Run.oA (hF:∀s,F' s=F s∨F' s= .undef) (hL:∀k cs,L' k=some cs→L k=some cs) (hσ:σ'.le σ) (h:Run cx K k F' L' σ'):Run cx K k F L σ:=
 fun items base g lam Pr a w0 w b cs hi hf hb hk=>h items base g lam Pr a w0 w b cs hi (hf.oA hF hL hσ) hb hk
theorem Run.KH {k':List CI}
 (hs:∀items,RIs cx k items→∃items',RIs cx k' items'∧∀(b:Frame) (a:Act) (cs:List Frame) (w:World),step cx.P (lone (b.at a items) cs w)= .next (lone (b.at a items') cs w))
 (h:Run cx K k' F L σ):Run cx K k F L σ:=by
 intro items base g lam Pr a w0 w b cs hi hf hb hk
 obtain ⟨items',hi',hst⟩:=hs items hi
 obtain ⟨v,w',fr,hss,rest⟩:=h items' base g lam Pr a w0 w b cs hi' hf hb hk
 exact ⟨v,w',fr,.head (hst b a cs w) hss,rest⟩
theorem RIs.code {c:C} {items:List Item} (h:RIs cx (.code c::k) items):∃p ys,items= .code p::ys∧RC cx c p∧RIs cx k ys:=by
 cases h with
 |cons hy hys=>obtain ⟨p,rfl,hp⟩:=hy;exact ⟨p,_,rfl,hp,hys⟩
theorem RIs.KG {c:C} {p:Code} {ys:List Item} (hc:RC cx c p) (h:RIs cx k ys):RIs cx (.code c::k) (.code p::ys):= .cons ⟨p,rfl,hc⟩ h
theorem Run.skip (h:Run cx K k F L σ):Run cx K (.code .skip::k) F L σ:=
 h.KH fun items hi=>by
  obtain ⟨p,ys,rfl,hp,hys⟩:=hi.code
  rcases hp with rfl|⟨l,rfl⟩
  · exact ⟨ys,hys,fun b a cs w=>step_skip⟩
  · exact ⟨ys,hys,fun b a cs w=>step_label⟩
theorem Run.scope {c:C} (h:Run cx K (.code c::.scp::k) F L σ):Run cx K (.code (.scope c)::k) F L σ:=
 h.KH fun items hi=>by
  obtain ⟨p,ys,rfl,⟨p1,rfl,h1⟩,hys⟩:=hi.code
  exact ⟨_,.KG h1 (.cons ⟨p1,rfl⟩ hys),fun b a cs w=>step_scope⟩
theorem Run.scp (h:Run cx K k F L σ):Run cx K (.scp::k) F L σ:=
 h.KH fun items hi=>by
  cases hi with
  |cons hy hys=>obtain ⟨p,rfl⟩:=hy;exact ⟨_,hys,fun b a cs w=>step_inScope⟩
theorem Run.seq {x y:C} (h:Run cx K (.code x::.code y::k) F L σ):Run cx K (.code (.seq x y)::k) F L σ:=
 h.KH fun items hi=>by
  obtain ⟨p,ys,rfl,⟨p1,p2,rfl,h1,h2⟩,hys⟩:=hi.code
  exact ⟨_,.KG h1 (.KG h2 hys),fun b a cs w=>step_seq⟩
theorem Run.block {id:Nat} {c:C} (h:Run cx K (.code c::.blk id::k) F L σ):Run cx K (.code (.block id c)::k) F L σ:=
 h.KH fun items hi=>by
  obtain ⟨p,ys,rfl,⟨p1,rfl,h1⟩,hys⟩:=hi.code
  exact ⟨_,.KG h1 (.cons rfl hys),fun b a cs w=>step_block⟩
theorem Run.blk {id:Nat} (h:Run cx K k F L σ):Run cx K (.blk id::k) F L σ:=
 h.KH fun items hi=>by
  cases hi with
  |cons hy hys=>cases hy;exact ⟨_,hys,fun b a cs w=>step_inBlock⟩
theorem Run.loop {c:C} (h:Run cx K (.code c::.again c::k) F L σ):Run cx K (.code (.loop c)::k) F L σ:=
 h.KH fun items hi=>by
  obtain ⟨p,ys,rfl,⟨p1,rfl,h1⟩,hys⟩:=hi.code
  exact ⟨_,.KG h1 (.cons ⟨p1,rfl,h1⟩ hys),fun b a cs w=>step_loop⟩
theorem Run.again {c:C} (h:Run cx K (.code c::.again c::k) F L σ):Run cx K (.again c::k) F L σ:=
 h.KH fun items hi=>by
  cases hi with
  |cons hy hys=>obtain ⟨p1,rfl,h1⟩:=hy;exact ⟨_,.KG h1 (.cons ⟨p1,rfl,h1⟩ hys),fun b a cs w=>step_inLoop⟩
def R5 (id:Nat):List CI→Option (List CI)
 | .blk id'::k=>if id'=id then some k else R5 id k
 |_::k=>R5 id k
 |[]=>none
theorem JI {id:Nat}:∀(k:List CI) (items:List Item) (k':List CI),RIs cx k items→R5 id k=some k'→∃items',exitTo id items=some items'∧RIs cx k' items'
 |[],_,_,_,h=>by cases h
 |x::k,items,k',hi,h=>by
  cases hi with
  |@cons _ y _ ys hy hys=>
   cases x with
   |code c=>
    obtain ⟨p,rfl,_⟩:=hy
    obtain ⟨i',h1,h2⟩:=JI k ys k' hys (by simpa [R5] using h)
    exact ⟨i',by simpa [exitTo] using h1,h2⟩
   |again c=>
    obtain ⟨p,rfl,_⟩:=hy
    obtain ⟨i',h1,h2⟩:=JI k ys k' hys (by simpa [R5] using h)
    exact ⟨i',by simpa [exitTo] using h1,h2⟩
   |scp=>
    obtain ⟨p,rfl⟩:=hy
    obtain ⟨i',h1,h2⟩:=JI k ys k' hys (by simpa [R5] using h)
    exact ⟨i',by simpa [exitTo] using h1,h2⟩
   |blk id'=>
    cases hy
    simp only [R5] at h
    split at h
    · rename_i e
      cases h
      exact ⟨ys,by simp [exitTo,e],hys⟩
    · rename_i e
      obtain ⟨i',h1,h2⟩:=JI k ys k' hys h
      exact ⟨i',by simpa [exitTo,e] using h1,h2⟩
theorem Run.exit {id:Nat} {k':List CI} (he:R5 id k=some k') (h:Run cx K k' F L σ):Run cx K (.code (.exit id)::k) F L σ:=
 h.KH fun items hi=>by
  obtain ⟨p,ys,rfl,hp,hys⟩:=hi.code
  cases hp
  obtain ⟨i',h1,h2⟩:=JI k ys k' hys he
  exact ⟨i',h2,fun b a cs w=>step_exit h1⟩
theorem Run.cond {x:X} {t e:C} {b:Bool} (hx:xv F x= .d (.bool b)) (ht:b=true→Run cx K (.code t::k) F L σ) (he:b=false→Run cx K (.code e::k) F L σ):
 Run cx K (.code (.cond x t e)::k) F L σ:=by
 intro items base g lam Pr a w0 w fb cs hi hf hb hk
 obtain ⟨p,ys,rfl,⟨c,p1,p2,rfl,hc,h1,h2⟩,hys⟩:=hi.code
 have hv:=A9 hc hf
 rw [hx] at hv
 have hev:a.eval c= .bool b:=by generalize a.eval c=vc at hv;cases hv with|d hh=>cases hh;rfl
 cases b with
 |true=>
  obtain ⟨v,w',fr,hs,rest⟩:=ht rfl _ base g lam Pr a w0 w fb cs (.KG h1 hys) hf hb hk
  exact ⟨v,w',fr,.head (step_cond hev) hs,rest⟩
 |false=>
  obtain ⟨v,w',fr,hs,rest⟩:=he rfl _ base g lam Pr a w0 w fb cs (.KG h2 hys) hf hb hk
  exact ⟨v,w',fr,.head (step_cond hev) hs,rest⟩
def cH (cx:Cx) (K:AV→AF→Prop) (k:List CI) (live:List Nat):CV:=fun F L σ=>Run cx K k (M4 live F) (I1 live L) σ
theorem Run.reg {ops:List Q} {live:List Nat} (hm:cx.P.follows .mixedOrders=true) (h:BV cx.P (cH cx K k live) ops F L σ):Run cx K (.code (.reg ops live)::k) F L σ:=by
 intro items base g lam Pr a w0 w b cs hi hf hb hk
 obtain ⟨p,ys,rfl,⟨id,arr,hp⟩,hys⟩:=hi.code
 have hw:p.wp cx.P (fun e a' w'=>e= .normal∧E6 base Pr cx.N w0 g w (cH cx K k live) a' w') a w:=by
  rcases hp with ⟨rfl,hc⟩|⟨rfl,order,hc⟩|⟨rfl,pt,t,hc,hl⟩
  · exact wp_region (Vi cx.P arr cx.N cx.esc (cH cx K k live) _ _ base g lam Pr F L σ a w0 w hc h hf (fun _ _ h=>⟨rfl,h⟩))
  · exact Zd hm hc h hf
  · exact Sz hm hc (iB t ops F L σ hl h) hf
 obtain ⟨e,a',w',⟨he,g',lam',F',L',σ',hle,hkp,hf',hK⟩,harr⟩:=hw b ys cs
 subst he
 obtain ⟨v,w2,fr,hs,hfn,hl,av,g2,σ2,hvr,hrel,hle2,hkp2,hk2⟩:=hK ys base g' lam' Pr a' w0 w' b cs hys (hf'.kept live) hb hk
 exact ⟨v,w2,fr,Steps.trans harr hs,hfn,hl,av,g2,σ2,hvr,hrel,Gh.le_trans hle hle2,hkp.trans hkp2,hk2⟩
theorem Run.Sa {t:QT} {live:List Nat} (hm:cx.P.follows .mixedOrders=true) (h:XT cx.P (cH cx K k live) false t F L σ):Run cx K (.code (.Sa t live)::k) F L σ:=by
 intro items base g lam Pr a w0 w b cs hi hf hb hk
 obtain ⟨p,ys,rfl,⟨id,arr,pt,rfl,hc⟩,hys⟩:=hi.code
 have hw:(Code.region id arr true).wp cx.P (fun e a' w'=>e= .normal∧E6 base Pr cx.N w0 g w (cH cx K k live) a' w') a w:=Sz hm hc h hf
 obtain ⟨e,a',w',⟨he,g',lam',F',L',σ',hle,hkp,hf',hK⟩,harr⟩:=hw b ys cs
 subst he
 obtain ⟨v,w2,fr,hs,hfn,hl,av,g2,σ2,hvr,hrel,hle2,hkp2,hk2⟩:=hK ys base g' lam' Pr a' w0 w' b cs hys (hf'.kept live) hb hk
 exact ⟨v,w2,fr,Steps.trans harr hs,hfn,hl,av,g2,σ2,hvr,hrel,Gh.le_trans hle hle2,hkp.trans hkp2,hk2⟩
theorem Sj (hf:Bc base g lam Pr N F L σ a w0 w):∀(l:List ResultVar) (rs:List RV) (vs:List AV),Sy P l=some rs→aX F L σ rs=some vs→vs.all AV.BZ=true→
 ∃xs:List Value,(l.mapM fun| .tmp t=>pure (a.tmps.getD t Cc)| .cell ad t=>do loadVar t (← asAddr (a.tmps.getD ad Cc)):Sem (List Value)).run P w= .ok xs w∧VRs g vs xs
 |[],rs,vs,hc,hv,_=>by
  simp only [Sy,AK] at hc;subst hc
  simp only [aX,AK] at hv;subst hv
  exact ⟨[],by simp,.nil⟩
 | .tmp n::l,rs,vs,hc,hv,hn=>by
  simp only [Sy,AN,AB] at hc
  obtain ⟨rs',hrs,he⟩:=hc
  cases he
  simp only [aX,AN,AB,rvA] at hv
  obtain ⟨v,hv1,vs',hvs,he⟩:=hv
  cases he;cases hv1
  simp only [BU,AQ] at hn
  obtain ⟨xs,hx,hr⟩:=Sj hf l rs' vs' hrs hvs hn.2
  exact ⟨a.tmps.getD n Cc::xs,by simp only [List.mapM_cons,Sem.run_bind,Sem.run_pure,Result.andThen_ok,hx],.cons ((hf.tm n).vr hn.1) hr⟩
 | .cell n t::l,rs,vs,hc,hv,hn=>by
  simp only [Sy,AN,AB] at hc
  obtain ⟨kk,hkk,rs',hrs,he⟩:=hc
  cases he
  simp only [aX,AN,AB,rvA] at hv
  obtain ⟨v,hv1,vs',hvs,he⟩:=hv
  cases he
  simp only [BU,AQ] at hn
  obtain ⟨xs,hx,hr⟩:=Sj hf l rs' vs' hrs hvs hn.2
  obtain ⟨x,hld,hvr⟩:=Y3 (P:=P) hkk hf (hf.tm n) hv1
  have hasaddr:(do loadVar t (← asAddr (a.tmps.getD n Cc)):Sem Value).run P w= .ok x w:=by
   have hs:=hf.tm n
   generalize a.tmps.getD n Cc=pn at hs hld
   cases hp:pn<;>simp only [hp,Instr.loadAt,Instr.sureAddr] at hld<;>try (simp at hld;done)
   rename_i ad
   cases ad with
   |none=>simp at hld
   |some ad=>simpa [asAddr,Instr.sureAddr] using hld
  exact ⟨x::xs,by simp only [Sem.run_bind] at hasaddr;simp only [List.mapM_cons,Sem.run_bind,hasaddr,hx,Result.andThen_ok,Sem.run_pure],.cons hvr hr⟩
theorem Wv {fn:Func} {rs:List RV} (hc:Sy P fn.results.toList=some rs) (hf:Bc base g lam Pr N F L σ a w0 w) {v:AV} (hv:Xj F L σ rs=some v):
 ∃x,(results fn a.tmps).run P w= .ok x w∧VR g v x:=by
 simp only [Xj,AB] at hv
 obtain ⟨vs,hvs,hv⟩:=hv
 split at hv
 case isFalse=>cases hv
 rename_i hn
 obtain ⟨xs,hx,hr⟩:=Sj (P:=P) hf _ rs vs hc hvs hn
 have hrun:(results fn a.tmps).run P w= .ok (if h:xs.toArray.size=1 then xs.toArray[0] else .tuple xs.toArray) w:=by
  unfold results
  rw [Array.mapM_eq_mapM_toList]
  simp only [Sem.run_bind,Sem.run_map,Sem.run_pure]
  exact congrArg (fun r:Result (List Value)=>(r.andThen fun a w'=>Result.ok a.toArray w').andThen fun (a:Array Value) w'=>Result.ok (if h:a.size=1 then a[0] else Value.tuple a) w') hx
 have hlen:=hr.length
 cases vs with
 |nil=>
  cases hv
  cases hr
  exact ⟨_,hrun,by simpa using VR.tup (g:=g) (cs:=[]) (vs:=[]) rfl (by simp)⟩
 |cons v1 vs=>
  cases vs with
  |nil=>
   cases hv
   cases hr with|cons h1 h2=>cases h2;exact ⟨_,hrun,by simpa using h1⟩
  |cons v2 vs=>
   cases hv
   refine ⟨_,hrun,?_⟩
   have hne:¬xs.toArray.size=1:=by simp at hlen ⊢;omega
   rw [dif_neg hne]
   exact .tup hr.length hr.idx
theorem Run.fin {σ2:AF} (hg:Good cx) {v v':AV} (hv:Xj F L σ cx.rs=some v) (hw:∀g x,VR g v x→VR g v' x) (hσ:σ2.le σ) (hK:K v' σ2):Run cx K [] F L σ:=by
 intro items base g lam Pr a w0 w b cs hi hf hb hk
 cases hi
 obtain ⟨x,hx,hvr⟩:=Wv hg.2 hf hv
 refine ⟨x,w,_,.one step_end,hb,⟨rfl,hf.df,hk,cx.fn,by show cx.P.funcs[b.fn]?=_;rw [hb];exact hg.1,hx⟩,v',g,σ2,hw g x hvr,?_,Gh.le_refl g,KP.refl Pr w,hK⟩
 exact (hf.rel.less hσ).grow (A0 _) (fun _ _ _=>rfl) (Below.refl _ _) (fun b hp=>⟨(hf.rel.pr b (.inl hp)).1,.inl (.inl hp)⟩)
theorem Run.ret {σ2:AF} (hg:Good cx) {v v':AV} (hv:Xj F L σ cx.rs=some v) (hw:∀g x,VR g v x→VR g v' x) (hσ:σ2.le σ) (hK:K v' σ2):Run cx K (.code .ret::k) F L σ:=by
 intro items base g lam Pr a w0 w b cs hi hf hb hk
 obtain ⟨p,ys,rfl,hp,hys⟩:=hi.code
 cases hp
 obtain ⟨x,hx,hvr⟩:=Wv hg.2 hf hv
 refine ⟨x,w,_,.one step_ret,hb,⟨rfl,hf.df,hk,cx.fn,by show cx.P.funcs[b.fn]?=_;rw [hb];exact hg.1,hx⟩,v',g,σ2,hw g x hvr,?_,Gh.le_refl g,KP.refl Pr w,hK⟩
 exact (hf.rel.less hσ).grow (A0 _) (fun _ _ _=>rfl) (Below.refl _ _) (fun b hp=>⟨(hf.rel.pr b (.inl hp)).1,.inl (.inl hp)⟩)
def BP (args:List AV):Fm:=fun s=>args.getD s .undef
theorem AW {args:List AV} {c:C} {code:Code} (hg:Good cx) (hb:cx.fn.body=some code) (hN:cx.fn.ntmps=cx.N) (hl:args.length≤cx.N) (hc:RC cx c code)
 (h:Run cx K [.code c] (BP args) (fun _=>none) σ):AM cx.P cx.f args σ K:=by
 intro base g Pr w0 w vs hrel hvs cs
 let b:Frame:= { (default:Frame) with fn:=cx.f,kind:= .normal}
 have henter:Frame.enter cx.P cx.f vs.toArray .normal=b.at { tmps:=vs.toArray++EL (cx.fn.ntmps - vs.toArray.size) Cc,defers:=[]} [.code code]:=by
  simp [Frame.enter,Frame.at,hg.1,hb,b]
 have hvl:=hvs.length
 have hf:Bc base g (fun _=>none) Pr cx.N (BP args) (fun _=>none) σ { tmps:=vs.toArray++EL (cx.fn.ntmps - vs.toArray.size) Cc,defers:=[]} w0 w:=by
  refine ⟨fun s=>?_,by simp;omega,rfl,fun k cs hk=>(by cases hk),fun k k' b hk=>(by cases hk),fun k b hk=>(by cases hk),?_⟩
  · simp only [BP,BQ]
    cases hs:args[s]? with
    |none=>exact VR.undef
    |some av=>
     obtain ⟨v,hv,hr⟩:=hvs.at s av hs
     have hlt:=(AR.1 hv).1
     have:(vs.toArray++EL (cx.fn.ntmps - vs.toArray.size) Cc).getD s Cc=v:=by
      simp only [Ca]
      rw [Array.getElem?_append_left (by simpa using hlt)]
      simp [hv]
     show SV g _ av ((vs.toArray++EL (cx.fn.ntmps - vs.toArray.size) Cc).getD s Cc)
     rw [this];exact SV.EV hr
  · exact hrel.grow (A0 _) (fun _ _ _=>rfl) (Below.refl _ _) (fun b hp=>by
     rcases hp with hp|⟨k,hk⟩
     · exact ⟨(hrel.pr b hp).1,.inl hp⟩
     · cases hk)
 obtain ⟨v,w',fr,hs,hfn,hlv,av,g',σ',h1,h2,h3,h4,h5⟩:=h [.code code] base g _ Pr _ w0 w b cs (.KG hc .nil) hf rfl rfl
 rw [← henter] at hs
 exact ⟨.returned v,w',fr,⟨v,av,g',σ',rfl,h1,h2,h3,h4,h5⟩,hs,hfn,hlv⟩
end Go.Ab
namespace Go.Ab
open Go.RowKit
variable {P:Program} {K:CV} {F:Fm} {L:Lm} {σ:AF} {r:List Q}
def E:Lm:=fun _=>none
def QL (k:Nat) (o:Option (List AV)) (L:Lm):Lm:=fun s=>if s=k then o else L s
theorem Dn (d:Nat) (v:AV) (F:Fm) (s:Nat):put d v F s=if s=d then v else F s:=rfl
theorem iW (d:Nat) (cs:List AV) (L:Lm) (s:Nat):BE d cs L s=if s=d then some cs else L s:=rfl
theorem oV (s:Nat):E s=none:=rfl
theorem o1 (s:Nat):U s= .undef:=rfl
theorem hU (F:Fm):M4 [] F=U:=rfl
theorem dZ (k:Nat) (ks:List Nat) (F:Fm):M4 (k::ks) F=put k (F k) (M4 ks F):=by
 funext s
 simp only [M4,put,Bf]
 by_cases h:s=k
 · subst h;simp
 · simp [h]
theorem dY (L:Lm):I1 [] L=E:=rfl
theorem Zw (k:Nat) (ks:List Nat) (L:Lm):I1 (k::ks) L=QL k (L k) (I1 ks L):=by
 funext s
 simp only [I1,QL,Bf]
 by_cases h:s=k
 · subst h;simp
 · simp [h]
theorem aM (k:Nat) (cs:List AV) (L:Lm):QL k (some cs) L=BE k cs L:=rfl
theorem lG (k:Nat):QL k none E=E:=by funext s;simp [QL,E]
theorem aL (k j:Nat) (cs:List AV) (L:Lm):QL k none (BE j cs L)=if j=k then QL k none L else BE j cs (QL k none L):=by
 funext s
 by_cases h:j=k
 · subst h
   simp only [if_true,QL,BE]
   by_cases h2:s=j<;>simp [h2]
 · simp only [h,if_false,QL,BE]
   by_cases h2:s=k
   · have h3:s≠j:=by omega
     rw [if_pos h2,if_neg h3,if_pos h2]
   · rw [if_neg h2]
     by_cases h3:s=j
     · rw [if_pos h3,if_pos h3]
     · rw [if_neg h3,if_neg h3,if_neg h2]
theorem e7 (k:Nat) (cs ds:List AV) (L:Lm):BE k cs (BE k ds L)=BE k cs L:=by
 funext s;simp only [BE];split<;>rfl
theorem p0 (F:Fm) (n:Nat):xv F (.t n)=F n:=rfl
theorem pZ (F:Fm) (v:AV):xv F (.c v)=v:=rfl
theorem Bg (a:AV):BP [a]=put 0 a U:=by
 funext s;simp only [BP,put,U];cases s<;>simp
theorem BY (a b:AV):BP [a,b]=put 0 a (put 1 b U):=by
 funext s;simp only [BP,put,U]
 match s with|0=>rfl|1=>rfl|n+2=>simp
theorem Lc (a b c:AV):BP [a,b,c]=put 0 a (put 1 b (put 2 c U)):=by
 funext s;simp only [BP,put,U]
 match s with|0=>rfl|1=>rfl|2=>rfl|n+3=>simp
theorem gD (a b c d:AV):BP [a,b,c,d]=put 0 a (put 1 b (put 2 c (put 3 d U))):=by
 funext s;simp only [BP,put,U]
 match s with|0=>rfl|1=>rfl|2=>rfl|3=>rfl|n+4=>simp
theorem gE (a b c d e:AV):BP [a,b,c,d,e]=put 0 a (put 1 b (put 2 c (put 3 d (put 4 e U)))):=by
 funext s;simp only [BP,put,U]
 match s with|0=>rfl|1=>rfl|2=>rfl|3=>rfl|4=>rfl|n+5=>simp
theorem lF (k:Nat):Cw k U=U:=by funext s;simp [Cw,U,AV.Ar]
theorem eZ (k d:Nat) (v:AV) (F:Fm):Cw k (put d v F)=put d (if v.Ar k then .undef else v) (Cw k F):=by
 funext s
 simp only [Cw,put]
 by_cases h:s=d<;>simp [h]
theorem nN (k:Nat) (x:DV):(AV.d x).Ar k=false:=rfl
theorem eJ (k:Nat):AV.AY.Ar k=false:=rfl
theorem iE (k t e s:Nat) (r:List (List DV)):(AV.own t e s r).Ar k=false:=rfl
theorem eG (k:Nat) (r:List (List DV)):(AV.clip r).Ar k=false:=rfl
theorem iD (k:Nat) (r:List AV):(AV.agg r).Ar k=false:=rfl
theorem k6 (k j o:Nat):(AV.lp j o).Ar k=(j==k):=rfl
theorem k5 (k j o:Nat):(AV.gp j o).Ar k=false:=rfl
theorem kY (k o:Nat) (r:List DV):(AV.ep r o).Ar k=false:=rfl
theorem eI (k:Nat):AV.FD.Ar k=false:=rfl
theorem k7 (k i n s e:Nat):(AV.ms i n s e).Ar k=false:=rfl
theorem k8 (k:Nat) (i o n s e:Nat):(AV.mv i o n s e).Ar k=false:=rfl
theorem kX (k:Nat) (t e:Nat) (s:List UInt8):(AV.bp t e s).Ar k=false:=rfl
theorem eH (k:Nat):AV.IL.Ar k=false:=rfl
theorem kZ (k:Nat) (f:FuncId) (x y:List AV):(AV.fn f x y).Ar k=false:=rfl
theorem iF (k:Nat) (x:List AV):(AV.tup x).Ar k=false:=rfl
theorem Zy (k:Nat):AV.undef.Ar k=false:=rfl
theorem kD (x:DV):AV.cells (AV.d x)=[(AV.d x)]:=rfl
theorem Z2:AV.cells AV.AY=[AV.AY]:=rfl
theorem cY (t e s:Nat) (r:List (List DV)):AV.cells (AV.own t e s r)=[(AV.own t e s r)]:=rfl
theorem ZZ (r:List (List DV)):AV.cells (AV.clip r)=[(AV.clip r)]:=rfl
theorem cX (r:List AV):AV.cells (AV.agg r)=r:=rfl
theorem gK (j o:Nat):AV.cells (AV.lp j o)=[(AV.lp j o)]:=rfl
theorem gJ (j o:Nat):AV.cells (AV.gp j o)=[(AV.gp j o)]:=rfl
theorem gH (r:List DV) (o:Nat):AV.cells (AV.ep r o)=[(AV.ep r o)]:=rfl
theorem Z1:AV.cells AV.FD=[AV.FD]:=rfl
theorem gL (i n s e:Nat):AV.cells (AV.ms i n s e)=[(AV.ms i n s e)]:=rfl
theorem gM (i o n s e:Nat):AV.cells (AV.mv i o n s e)=[AV.mv i o n s e]:=rfl
theorem gG (t e:Nat) (s:List UInt8):AV.cells (AV.bp t e s)=[AV.bp t e s]:=rfl
theorem Z0:AV.cells AV.IL=[AV.IL]:=rfl
theorem gI (f:FuncId) (x y:List AV):AV.cells (AV.fn f x y)=[(AV.fn f x y)]:=rfl
theorem cZ (x:List AV):AV.cells (AV.tup x)=[(AV.tup x)]:=rfl
theorem YE:AV.cells AV.undef=[AV.undef]:=rfl
theorem hJ (x:DV):AV.BW (AV.d x)=true:=rfl
theorem Y2:AV.BW AV.AY=true:=rfl
theorem Zt (t e s:Nat) (r:List (List DV)):AV.BW (AV.own t e s r)=true:=rfl
theorem YY (r:List (List DV)):AV.BW (AV.clip r)=true:=rfl
theorem Zs (r:List AV):AV.BW (AV.agg r)=false:=rfl
theorem dT (j o:Nat):AV.BW (AV.lp j o)=false:=rfl
theorem dS (j o:Nat):AV.BW (AV.gp j o)=true:=rfl
theorem dQ (r:List DV) (o:Nat):AV.BW (AV.ep r o)=true:=rfl
theorem Y1:AV.BW AV.FD=true:=rfl
theorem dU (i n s e:Nat):AV.BW (AV.ms i n s e)=true:=rfl
theorem dV (i o n s e:Nat):AV.BW (AV.mv i o n s e)=true:=rfl
theorem dP (t e:Nat) (s:List UInt8):AV.BW (AV.bp t e s)=true:=rfl
theorem Y0:AV.BW AV.IL=true:=rfl
theorem dR (f:FuncId) (x y:List AV):AV.BW (AV.fn f x y)=true:=rfl
theorem Zu (x:List AV):AV.BW (AV.tup x)=false:=rfl
theorem X5:AV.BW AV.undef=false:=rfl
theorem Ft (x:DV):AV.BZ (AV.d x)=true:=rfl
theorem eS:AV.BZ AV.AY=true:=rfl
theorem iM (t e s:Nat) (r:List (List DV)):AV.BZ (AV.own t e s r)=true:=rfl
theorem eP (r:List (List DV)):AV.BZ (AV.clip r)=true:=rfl
theorem DR (r:List AV):AV.BZ (AV.agg r)=true:=rfl
theorem lD (j o:Nat):AV.BZ (AV.lp j o)=false:=rfl
theorem lC (j o:Nat):AV.BZ (AV.gp j o)=true:=rfl
theorem lB (r:List DV) (o:Nat):AV.BZ (AV.ep r o)=true:=rfl
theorem eR:AV.BZ AV.FD=true:=rfl
theorem cA (i n s e:Nat):AV.BZ (AV.ms i n s e)=true:=rfl
theorem lE (i o n s e:Nat):AV.BZ (AV.mv i o n s e)=true:=rfl
theorem lA (t e:Nat) (s:List UInt8):AV.BZ (AV.bp t e s)=true:=rfl
theorem eQ:AV.BZ AV.IL=true:=rfl
theorem b8 (f:FuncId) (x y:List AV):AV.BZ (AV.fn f x y)=true:=rfl
theorem iN (x:List AV):AV.BZ (AV.tup x)=true:=rfl
theorem aC:AV.BZ AV.undef=true:=rfl
theorem pV (x:DV):AV.dv (AV.d x)=some x:=rfl
theorem kN:AV.dv AV.AY=some (.sl []):=rfl
theorem nA (t e s:Nat) (r:List (List DV)):AV.dv (AV.own t e s r)=some (.sl r):=rfl
theorem kK (r:List (List DV)):AV.dv (AV.clip r)=some (.sl r):=rfl
theorem m9 (r:List AV):AV.dv (AV.agg r)=none:=rfl
theorem o9 (j o:Nat):AV.dv (AV.lp j o)=none:=rfl
theorem o8 (j o:Nat):AV.dv (AV.gp j o)=none:=rfl
theorem o6 (r:List DV) (o:Nat):AV.dv (AV.ep r o)=none:=rfl
theorem kM:AV.dv AV.FD=some .FD:=rfl
theorem pB (i o n s e:Nat):AV.dv (AV.mv i o n s e)=none:=rfl
theorem o5 (t e:Nat) (s:List UInt8):AV.dv (AV.bp t e s)=none:=rfl
theorem kL:AV.dv AV.IL=none:=rfl
theorem pA (i n s e:Nat):AV.dv (AV.ms i n s e)=none:=rfl
theorem o7 (f:FuncId) (x y:List AV):AV.dv (AV.fn f x y)=none:=rfl
theorem nB (x:List AV):AV.dv (AV.tup x)=none:=rfl
theorem gT:AV.dv AV.undef=none:=rfl
theorem fD:AV.rows AV.AY=some []:=rfl
theorem jB (t e s:Nat) (r:List (List DV)):AV.rows (AV.own t e s r)=some r:=rfl
theorem fC (r:List (List DV)):AV.rows (AV.clip r)=some r:=rfl
theorem n8 (r:List (List DV)):AV.rows (AV.d (.sl r))=some r:=rfl
theorem eE:M6 AV.AY=some (.d (.int .i64 0)):=rfl
theorem iA (t e s:Nat) (r:List (List DV)):M6 (AV.own t e s r)=some (.d (.int .i64 r.length)):=rfl
theorem eB (r:List (List DV)):M6 (AV.clip r)=some (.d (.int .i64 r.length)):=rfl
theorem kV (i n s e:Nat):M6 (AV.ms i n s e)=some (.d (.int .i64 n)):=rfl
theorem kW (i o n s e:Nat):M6 (AV.mv i o n s e)=some (.d (.int .i64 n)):=rfl
theorem nM (r:List (List DV)):M6 (AV.d (.sl r))=some (.d (.int .i64 r.length)):=rfl
theorem oP:BV P K [] F L σ=K F L σ:=rfl
theorem oU (b:Bool) (q:Q) (t:QT):XT P K b (.one q t) F L σ=BV P (XT P K false t) [q] F L σ:=by cases b<;>rfl
theorem oT (b:Bool) (q:Q) (t s:QT):XT P K b (.alt q t s) F L σ=(BV P (XT P K false t) [q] F L σ∧XT P K true s F L σ):=by cases b<;>rfl
theorem mE:XT P K false .done F L σ=K F L σ:=rfl
theorem mF:XT P K true .done F L σ=True:=rfl
theorem jV (v:AV) (d:Nat):XPv (some v) (some d) K F L σ=K (put d v F) L σ:=rfl
theorem pS (d:Nat) (x:X):BV P K (⟨some d,.mv x,none⟩::r) F L σ=BV P K r (put d (xv F x) F) L σ:=rfl
theorem l9 (d:Option Nat) (x y z:X):BV P K (⟨d,.pick x y z,none⟩::r) F L σ=XPv (Y7 (xv F x) (xv F y) (xv F z)) d (BV P K r) F L σ:=rfl
theorem oI (d:Option Nat) (x:X) (o:Nat):BV P K (⟨d,.fld x o,none⟩::r) F L σ=XPv (Zg (xv F x) o) d (BV P K r) F L σ:=rfl
theorem pQ (d:Option Nat) (x:X) (n:Option Nat):BV P K (⟨d,.ld x n,none⟩::r) F L σ=XPv (ldA L σ (xv F x) n) d (BV P K r) F L σ:=rfl
theorem pP (d:Option Nat) (x y:X) (n:Nat):BV P K (⟨d,.ix x y n,none⟩::r) F L σ=XPv (ixA (xv F x) (xv F y) n) d (BV P K r) F L σ:=rfl
theorem mB (d:Option Nat) (x y:X):BV P K (⟨d,.Lv x y,none⟩::r) F L σ=XPv (V5 (xv F x) (xv F y)) d (BV P K r) F L σ:=rfl
theorem oK (d:Option Nat) (x:X):BV P K (⟨d,.len x,none⟩::r) F L σ=XPv (M6 (xv F x)) d (BV P K r) F L σ:=rfl
theorem mC (d:Option Nat) (x:X):BV P K (⟨d,.Gy x,none⟩::r) F L σ=XPv (Wy (xv F x)) d (BV P K r) F L σ:=rfl
theorem oD (d:Option Nat) (op:BinOp) (x y:X):BV P K (⟨d,.bin op x y,none⟩::r) F L σ=XPv (cP op (xv F x) (xv F y)) d (BV P K r) F L σ:=rfl
theorem l3 (d:Option Nat) (op:BinOp) (x y:X):BV P K (⟨d,.cR op x y,none⟩::r) F L σ=XPv (W9 op (xv F x) (xv F y)) d (BV P K r) F L σ:=rfl
theorem pU (d:Option Nat) (op:UnOp) (x:X):BV P K (⟨d,.un op x,none⟩::r) F L σ=XPv (unA op (xv F x)) d (BV P K r) F L σ:=rfl
theorem l8 (d:Option Nat) (k:IntKind) (x:X):BV P K (⟨d,.conv k x,none⟩::r) F L σ=XPv (Wf k (xv F x)) d (BV P K r) F L σ:=rfl
theorem oE (d:Option Nat) (z:List AV) (ps:List (Nat×Nat×X)):BV P K (⟨d,.bld z ps,none⟩::r) F L σ=XPv ((HZ z F ps).map .agg) d (BV P K r) F L σ:=rfl
theorem oG (d:Option Nat) (s n:Nat) (z:List AV) (ps:List (Nat×Nat×X)):BV P K (⟨d,.bsl s n z ps,none⟩::r) F L σ=XPv (((HZ z F ps).bind dvs).map fun l=>.d (.sl (chunk s n l))) d (BV P K r) F L σ:=rfl
theorem oL (d:Option Nat) (f:FuncId) (x y:List X):BV P K (⟨d,.mkf f x y,none⟩::r) F L σ=XPv (if (xvs F x++xvs F y).all AV.BZ then some (.fn f (xvs F x) (xvs F y)) else none) d (BV P K r) F L σ:=rfl
theorem oH (d:Option Nat) (x:X) (i:Nat):BV P K (⟨d,.ext x i,none⟩::r) F L σ=XPv (dB (xv F x) i) d (BV P K r) F L σ:=rfl
theorem oO (d:Option Nat) (x:X):BV P K (⟨d,.nck x,none⟩::r) F L σ=XPv (iJ (xv F x)) d (BV P K r) F L σ:=rfl
theorem pR (d:Option Nat) (b:Bool) (x y:X):BV P K (⟨d,.mm b x y,none⟩::r) F L σ=XPv (mmA b (xv F x) (xv F y)) d (BV P K r) F L σ:=rfl
theorem oF (d:Nat) (x:X):BV P K (⟨some d,.box x false,none⟩::r) F L σ=(Af (xv F x).cells=true∧BV P K r (put d (.lp d 0) (Cw d F)) (BE d (xv F x).cells L) σ):=rfl
theorem pI (d:Nat) (z:List AV):BV P K (⟨some d,.al z false,none⟩::r) F L σ=(Af z=true∧BV P K r (put d (.lp d 0) (Cw d F)) (BE d z L) σ):=rfl
theorem l4 (d:Nat) (x:X):BV P K (⟨some d,.box x true,none⟩::r) F L σ=(Af (xv F x).cells=true∧∀i,σ.blk i=none→BV P K r (put d (.gp i 0) F) L (σ.AP i (xv F x).cells)):=rfl
theorem oB (d:Nat) (z:List AV):BV P K (⟨some d,.al z true,none⟩::r) F L σ=(Af z=true∧∀i,σ.blk i=none→BV P K r (put d (.gp i 0) F) L (σ.AP i z)):=rfl
def mU (K:CV) (F:Fm):Option (Lm×AF)→Prop
 |some (L',σ')=>K F L' σ'
 |none=>False
theorem jW (F:Fm) (L':Lm) (σ':AF):mU K F (some (L',σ'))=K F L' σ':=rfl
theorem pT (x v:X) (n:Nat):BV P K (⟨none,.st x v n,none⟩::r) F L σ=(Af (xv F v).cells=true∧(xv F v).cells.length=n∧mU (BV P K r) F (stA L σ (xv F v).cells (xv F x))):=by
 show XSt _ _ _ _ _ _ _ _=_
 unfold XSt mU
 simp only [true_and]
 cases stA L σ (xv F v).cells (xv F x)<;>rfl
theorem pL (d:Option Nat) (o:O) (s:Nat) (want:Bool):BV P K (⟨d,o,some (s,want)⟩::r) F L σ=XG (gdV want (F s)) (BV P K (⟨d,o,none⟩::r) F L σ) (BV P K r (Av d (.tup []) F) L σ):=rfl
theorem pO (d:Option Nat) (o:O) (s:Nat) (want:Bool) (h:gdV want (F s)=some true):BV P K (⟨d,o,some (s,want)⟩::r) F L σ=BV P K (⟨d,o,none⟩::r) F L σ:=by rw [pL,h];rfl
theorem pM (d:Option Nat) (o:O) (s:Nat) (want:Bool) (h:gdV want (F s)=some false):BV P K (⟨d,o,some (s,want)⟩::r) F L σ=BV P K r (Av d (.tup []) F) L σ:=by rw [pL,h];rfl
theorem pC (want b:Bool):gdV want (.d (.bool b))=some (b==want):=rfl
theorem pD (want:Bool):gdV want (.tup [])=some false:=rfl
theorem e8 (d:Nat) (v:AV) (F:Fm):Av (some d) v F=put d v F:=rfl
theorem l7 (d:Option Nat) (f:FuncId) (args:List X):BV P K (⟨d,.call f args,none⟩::r) F L σ=AJ P f (xvs F args) d (BV P K r) F L σ:=rfl
theorem jU (d:Option Nat) (f:FuncId) (args:List X):BV P K (⟨d,.TI f args,none⟩::r) F L σ=UI P f (xvs F args) d (BV P K r) F L σ:=rfl
theorem oC (d:Option Nat) (e s b:Nat) (x y:X):BV P K (⟨d,.app e s b x y,none⟩::r) F L σ=Dy e s b (xv F x) (xv F y) d (BV P K r) F L σ:=rfl
def mO (P:Program) (x:AV) (args:List AV) (dst:Option Nat) (K:CV) (F:Fm) (L:Lm) (σ:AF):Prop:=
 ∃f first caps,x= .fn f first caps∧C0 P f=true∧AJ P f (first++args++caps) dst K F L σ
theorem jT (d:Option Nat) (x:X) (args:List X):BV P K (⟨d,.FV x args,none⟩::r) F L σ=mO P (xv F x) (xvs F args) d (BV P K r) F L σ:=rfl
theorem oN (d:Option Nat) (e s b:Nat) (z:List AV) (x y:X):BV P K (⟨d,.msl e s b z x y,none⟩::r) F L σ=Qx e s b z (xv F x) (xv F y) d (BV P K r) F L σ:=rfl
theorem lZ (d:Option Nat) (e s b:Nat) (x y:X):BV P K (⟨d,.UO e s b x y,none⟩::r) F L σ=W7 e s b (xv F x) (xv F y) d (BV P K r) F L σ:=rfl
theorem oS (d:Option Nat) (x y:X):BV P K (⟨d,.trn x y,none⟩::r) F L σ=mV (xv F x) (xv F y) d (BV P K r) F L σ:=rfl
theorem l6 (d:Option Nat) (e s n:Nat) (z:List AV) (ps:List (Nat×Nat×X)):BV P K (⟨d,.QX e s n z ps,none⟩::r) F L σ=Pl e s n (HZ z F ps) d (BV P K r) F L σ:=rfl
theorem oJ (d:Option Nat) (x:X) (n:Option Nat):BV P K (⟨d,.ldl x n,none⟩::r) F L σ=XPv (Xa L (xv F x) n) d (BV P K r) F L σ:=rfl
theorem pK (d:Option Nat) (x:X) (o:Nat) (n:Option Nat):BV P K (⟨d,.fd x o n,none⟩::r) F L σ=XPv (fdA (xv F x) o n) d (BV P K r) F L σ:=rfl
theorem oR (d:Option Nat) (x:X) (a b:Option X):BV P K (⟨d,.ssl x a b,none⟩::r) F L σ=XPv (Ov (xv F x) (a.map (xv F)) (b.map (xv F))) d (BV P K r) F L σ:=rfl
theorem oQ (d:Option Nat) (x:X) (a b c:Option X) (n:Nat):BV P K (⟨d,.sls x a b c n,none⟩::r) F L σ=XPv (fF (xv F x) (a.map (xv F)) (b.map (xv F)) (c.map (xv F)) n) d (BV P K r) F L σ:=rfl
theorem mA (d:Option Nat) (ne:Bool) (x:X):BV P K (⟨d,.Ya ne x,none⟩::r) F L σ=XPv (Ws ne (xv F x)) d (BV P K r) F L σ:=rfl
theorem mD (d:Option Nat) (ne:Bool) (n:Nat) (x y:X):BV P K (⟨d,.ZA ne n x y,none⟩::r) F L σ=XPv (Wz ne n (xv F x) (xv F y)) d (BV P K r) F L σ:=rfl
theorem oM (d:Option Nat) (b:Bool) (x y z:X):BV P K (⟨d,.mm3 b x y z,none⟩::r) F L σ=XPv ((mmA b (xv F x) (xv F y)).bind fun v=>mmA b v (xv F z)) d (BV P K r) F L σ:=rfl
theorem l5 (d:Option Nat) (x:X):BV P K (⟨d,.cT x,none⟩::r) F L σ=XPv ((dvs (xv F x).cells).map fun ds=>.d (.ptr ds)) d (BV P K r) F L σ:=rfl
theorem pJ (d:Option Nat) (k:EK) (xs:List X):BV P K (⟨d,.ex k xs,none⟩::r) F L σ=XEx k (xvs F xs) d (BV P K r) F L σ:=rfl
theorem lX (d:Option Nat) (args:List AV):XEx .cap args d K F L σ=XPv (exP .cap args) d K F L σ:=rfl
theorem lW (d:Option Nat) (args:List AV):XEx .b2s args d K F L σ=XPv (exP .b2s args) d K F L σ:=rfl
theorem lY (d:Option Nat) (args:List AV):XEx .usd args d K F L σ=XPv (exP .usd args) d K F L σ:=rfl
theorem lV (d:Nat) (t:Nat) (z:List AV):XEx (.alt t z) [] (some d) K F L σ=(Af z=true∧∀i,(σ.blk i=none∧σ.bt i=none)→K (put d (.gp i 0) F) L ((σ.AP i z).DK i (z.length,t))):=by
 simp only [XEx,EK.pure,AZ,if_false,Cr,true_and,ExR,Av]
theorem XEx.Yy {d:Nat} {ne b:Bool} {v:AV} (hn:v.BZ=true) (hv:aA v=some b) (h:K (put d (.d (.bool (b != ne))) F) L σ):XEx (.Yy ne) [v] (some d) K F L σ:=by
 refine ⟨by simp [hn],?_⟩
 show (match aA v with|some b=>_|none=>_)
 rw [hv];exact h
theorem XEx.apps {d:Option Nat} {e:Nat} {s:AV} {x:List UInt8} {rows:List (List DV)} {σ1:AF} (hn:s.BZ=true) (ha:Nm σ e 1 s=some (rows,σ1)) (hl:rows.length+x.length≤140737488355328)
 (h:∀t,σ.tok t=false→K (Av d (.own t e 1 (rows++CF x)) F) L (σ1.F2 t)):XEx (.apps e) [s,.d (.str x)] d K F L σ:=
 ⟨by rw [BU,hn];rfl,rows,σ1,ha,hl,h⟩
theorem XEx.cM {d:Option Nat} {e size bytes:Nat} {z:List AV} {k:IntKind} {n:Nat} (h0:0 < n) (hb:bytes≤10000) (hn:n≤1000000000)
 (h:∀j,σ.blk j=none→K (Av d (.ms j n size e) F) L (σ.AP j (AG n z).flatten)):XEx (.cM e size bytes z) [.AY,.d (.int k n)] d K F L σ:=by
 refine ⟨rfl,by omega,?_,by omega,?_⟩
 · have h1:n * bytes≤1000000000 * 10000:=MD hn hb
   have h2:((n * bytes:Nat):Int)≤((1000000000 * 10000:Nat):Int):=Int.ofNat_le.2 h1
   rw [Int.natCast_mul] at h2
   exact Int.le_trans h2 (by decide)
 · simpa using h
theorem XEx.fR {d:Option Nat} {e t:Nat} {s:List UInt8} {n:Int} (hl:n=s.length) (h0:s≠[]) (ht:σ.tok t=true) (h:K (Av d (.d (.str s)) F) L (σ.Ei t)):XEx (.fR e) [.bp t e s,.d (.int .i64 n)] d K F L σ:=
 ⟨rfl,⟨rfl,hl⟩,h0,ht,h⟩
theorem W7.mk {d:Option Nat} {e size bytes n:Nat} {s x:AV} {cs:List AV} {srows:List (List DV)} {σ1:AF} (h1:KW σ e size s=some (n,cs,σ1)) (h2:x.rows=some srows)
 (h3:∀r∈srows,r.length=size) (h4:srows≠[]) (h5:n+srows.length≤1000000000) (hb:bytes≤10000)
 (h:∀j,σ.blk j=none→K (Av d (.ms j (n+srows.length) size e) F) L (σ1.AP j (cs++FC srows))):W7 e size bytes s x d K F L σ:=
 ⟨n,cs,σ1,srows,h1,h2,h3,fun e=>absurd e h4,by simp only [maxLen];omega,by
   calc (n+srows.length) * bytes≤1000000000 * 10000:=MD h5 hb
    _≤140737488355328:=by decide,fun _=>h⟩
theorem Pl.mk {d:Option Nat} {e s n:Nat} {cs:List AV} (h:∀j,σ.blk j=none→K (Av d (.ms j n s e) F) L (σ.AP j cs)):Pl e s n (some cs) d K F L σ:=⟨cs,rfl,.inl h⟩
theorem Pl.own {d:Option Nat} {e s n:Nat} {cs:List AV} {ds:List DV} (hd:dvs cs=some ds) (hn:0 < n) (h:∀t,σ.tok t=false→K (Av d (.own t e s (chunk s n ds)) F) L (σ.F2 t)):Pl e s n (some cs) d K F L σ:=⟨cs,rfl,.inr ⟨ds,hd,hn,h⟩⟩
theorem kC (n:Nat):TT n none none=some (0,n):=by simp [TT]
theorem Qx.mk {d:Option Nat} {e s b:Nat} {z:List AV} (n:Nat) (hb:b * n≤281474976710656) (hn:n≤9223372036854775807) (h:∀i,σ.blk i=none→K (Av d (.ms i n s e) F) L (σ.AP i (AG n z).flatten)):
 Qx e s b z (.d (.int .i64 n)) (.d (.int .i64 n)) d K F L σ:=
 ⟨.i64,.i64,n,rfl,rfl,by omega,by rw [← Int.natCast_mul];omega,by omega,fun i hi=>by simpa using h i hi⟩
theorem AJ.mk {d:Option Nat} {f:FuncId} {args:List AV} {Q:AV→AF→Prop} (hn:args.all AV.BZ=true) (h:AM P f args σ Q) (hk:∀v σ',Q v σ'→K (Av d v F) L σ'):
 AJ P f args d K F L σ:=⟨hn,Q,h,hk⟩
theorem UI.mk {d:Option Nat} {f:FuncId} {args:List AV} {v:AV} (hn:args.all AV.BZ=true) (h:AM P f args σ (fun v' σ'=>v'=v∧σ'=σ)) (hk:K (Av d v F) L σ) (hv:v.BZ=true:=by rfl):
 UI P f args d K F L σ:=⟨hn,v,⟨hv,h⟩,hk⟩
theorem Dy.mk {d:Option Nat} {e size bytes:Nat} {s x:AV} {rows srows:List (List DV)} {σ1:AF} (h1:Nm σ e size s=some (rows,σ1)) (h2:x.rows=some srows)
 (h3:∀r∈srows,r.length=size) (h4:rows.length+srows.length≤maxLen) (h5:(rows.length+srows.length) * bytes≤140737488355328)
 (h:∀t,σ.tok t=false→K (Av d (.own t e size (rows++srows)) F) L (σ1.F2 t)):Dy e size bytes s x d K F L σ:= .inl ⟨rows,σ1,srows,h1,h2,h3,h4,h5,h⟩
theorem Dy.clip {d:Option Nat} {e size bytes:Nat} {x:AV} {rows srows:List (List DV)} (h2:x.rows=some srows)
 (h3:∀r∈rows,r.length=size) (h3':∀r∈srows,r.length=size) (h4:rows.length+srows.length≤1000000000) (hb:bytes≤10000)
 (h:K (Av d (.d (.sl (rows++srows))) F) L σ):Dy e size bytes (.clip rows) x d K F L σ:=
 .inr ⟨rows,srows,rfl,h2,h3,h3',by simp only [maxLen];omega,by
  calc (rows.length+srows.length) * bytes≤1000000000 * 10000:=MD h4 hb
   _≤140737488355328:=by decide,h⟩
theorem AM.args {f:FuncId} {args args':List AV} {Q:AV→AF→Prop} (h:AM P f args' σ Q) (hw:∀g vs,VRs g args vs→VRs g args' vs):AM P f args σ Q:=
 fun base g Pr w0 w vs hr hv=>h base g Pr w0 w vs hr (hw g vs hv)
theorem UH:∀(ops:List Q) {K K':CV} {F:Fm} {L:Lm} {σ:AF},(∀F L σ,K F L σ→K' F L σ)→BV P K ops F L σ→BV P K' ops F L σ
 |[],_,_,_,_,_,hk,hx=>hk _ _ _ hx
 |q::rest,K,K',F,L,σ,hk,hx=>by
  have hx:XG (gd F q.grd) (XO P q.dst (BV P K rest) F L σ q.o) (BV P K rest (Av q.dst (.tup []) F) L σ):=hx
  show XG (gd F q.grd) (XO P q.dst (BV P K' rest) F L σ q.o) (BV P K' rest (Av q.dst (.tup []) F) L σ)
  cases hc:gd F q.grd with
  |none=>rw [hc] at hx;exact hx.elim
  |some b=>
   rw [hc] at hx
   cases b
   · exact UH rest hk hx
   · exact ZN (fun F L σ h=>UH rest hk h) hx
def Cut (live:List Nat) (F0:Fm) (L0:Lm) (σ0:AF):CV:=fun F L σ=>M4 live F=F0∧I1 live L=L0∧σ=σ0
theorem Run.nZ {cx:Cx} {KK:AV→AF→Prop} {k:List CI} {ops:List Q} {live:List Nat} (hm:cx.P.follows .mixedOrders=true) (F0:Fm) (L0:Lm) (σ0:AF)
 (h1:BV cx.P (Cut live F0 L0 σ0) ops F L σ) (h2:Run cx KK k F0 L0 σ0):Run cx KK (.code (.reg ops live)::k) F L σ:=
 Run.reg hm (UH ops (fun F L σ h=>by obtain ⟨e1,e2,e3⟩:=h;show Run cx KK k (M4 live F) (I1 live L) σ;rw [e1,e2,e3];exact h2) h1)
theorem bD {P:Program} {m m1 m':Machine} (h:step P m= .next m1) (hs:Steps P m m') (hne:m≠m'):Steps P m1 m':=by
 obtain ⟨n,hn⟩:=hs
 cases n with
 |zero=>simp only [runN] at hn;cases hn;exact absurd rfl hne
 |succ n=>simp only [runN,h] at hn;exact ⟨n,hn⟩
theorem Run.BD {cx:Cx} {KK:AV→AF→Prop} {k:List CI} {c:C} (h:Run cx KK (.again c::k) F L σ):Run cx KK (.code (.loop c)::k) F L σ:=by
 intro items base g lam Pr a w0 w b cs hi hf hb hk
 obtain ⟨p,ys,rfl,⟨p1,rfl,h1⟩,hys⟩:=hi.code
 obtain ⟨v,w',fr,hs,hfn,hl,rest⟩:=h (.inLoop p1::ys) base g lam Pr a w0 w b cs (.cons ⟨p1,rfl,h1⟩ hys) hf hb hk
 refine ⟨v,w',fr,.head step_loop (bD step_inLoop hs fun e=>?_),hfn,hl,rest⟩
 have h2:(lone (b.at a (.inLoop p1::ys)) cs w).gs=(lone fr cs w').gs:=by rw [e]
 simp only [lone,Array.mk.injEq,List.cons.injEq,Goroutine.mk.injEq] at h2
 have h3:(b.at a (.inLoop p1::ys)).mode=fr.mode:=by rw [h2.1.1]
 rw [hl.1] at h3
 cases h3
def W8 (v:AV) (A B:Prop):Prop:=
 match v with
 | .d (.bool b)=>(b=true→A)∧(b=false→B)
 |_=>False
theorem lS (b:Bool) (A B:Prop):W8 (.d (.bool b)) A B=((b=true→A)∧(b=false→B)):=rfl
theorem lU (A B:Prop):W8 (.d (.bool true)) A B=A:=by simp [W8]
theorem lT (A B:Prop):W8 (.d (.bool false)) A B=B:=by simp [W8]
theorem Run.AD {cx:Cx} {KK:AV→AF→Prop} {k:List CI} {x:X} {t e:C} (h:W8 (xv F x) (Run cx KK (.code t::k) F L σ) (Run cx KK (.code e::k) F L σ)):Run cx KK (.code (.cond x t e)::k) F L σ:=by
 cases hx:xv F x<;>rw [hx] at h<;>try exact h.elim
 rename_i dv
 cases dv<;>try exact h.elim
 exact Run.cond hx h.1 h.2
mutual
def AV.plain:AV→AV
 | .AY=>.d (.sl [])
 | .FD=>.d .FD
 | .own _ _ _ rows=>.d (.sl rows)
 | .clip rows=>.d (.sl rows)
 | .agg cs=>.agg (AV.DM cs)
 | .tup vs=>.tup (AV.DM vs)
 |v=>v
def AV.DM:List AV→List AV
 |[]=>[]
 |v::l=>AV.plain v::AV.DM l
end
theorem Gc (x:DV):AV.plain (AV.d x)=(AV.d x):=by simp only [AV.plain]
theorem NR:AV.plain AV.AY= .d (.sl []):=by simp only [AV.plain]
theorem eW (t e s:Nat) (r:List (List DV)):AV.plain (AV.own t e s r)= .d (.sl r):=by simp only [AV.plain]
theorem aI (r:List (List DV)):AV.plain (AV.clip r)= .d (.sl r):=by simp only [AV.plain]
theorem Ij (r:List AV):AV.plain (AV.agg r)= .agg (AV.DM r):=by simp only [AV.plain]
theorem iR (j o:Nat):AV.plain (AV.lp j o)=(AV.lp j o):=by simp only [AV.plain]
theorem VA (j o:Nat):AV.plain (AV.gp j o)=(AV.gp j o):=by simp only [AV.plain]
theorem iP (r:List DV) (o:Nat):AV.plain (AV.ep r o)=(AV.ep r o):=by simp only [AV.plain]
theorem VB:AV.plain AV.FD= .d .FD:=by simp only [AV.plain]
theorem iS (i n s e:Nat):AV.plain (AV.ms i n s e)=(AV.ms i n s e):=by simp only [AV.plain]
theorem iT (i o n s e:Nat):AV.plain (AV.mv i o n s e)=(AV.mv i o n s e):=by simp only [AV.plain]
theorem iO (t e:Nat) (s:List UInt8):AV.plain (AV.bp t e s)=(AV.bp t e s):=by simp only [AV.plain]
theorem aJ:AV.plain AV.IL=AV.IL:=by simp only [AV.plain]
theorem iQ (f:FuncId) (x y:List AV):AV.plain (AV.fn f x y)=(AV.fn f x y):=by simp only [AV.plain]
theorem eX (x:List AV):AV.plain (AV.tup x)= .tup (AV.DM x):=by simp only [AV.plain]
theorem Y9:AV.plain AV.undef=AV.undef:=by simp only [AV.plain]
theorem NS:∀(l:List AV) (i:Nat),(AV.DM l)[i]?=(l[i]?).map AV.plain
 |[],i=>by simp [AV.DM]
 |v::l,0=>by simp [AV.DM]
 |v::l,i+1=>by simp [AV.DM,NS l i]
theorem Qg:∀l:List AV,(AV.DM l).length=l.length
 |[]=>rfl
 |v::l=>by simp [AV.DM,Qg l]
theorem aH {v:AV} (h:v.BW=true):v.plain.BW=true:=by cases v<;>first|rfl|(cases h;done)
theorem VR.plain {g:Gh} {x:AV} {v:Value} (h:VR g x v):VR g x.plain v:=by
 induction h with
 |d h=>simpa [AV.plain] using VR.d h
 |AY=>exact .d (.nil (Ck _) (fun _=>rfl))
 |own h _ _=>exact .d h
 |clip h=>exact .d h
 |@agg cs vs hl hc _ ih=>
  refine .agg (by rw [Qg];exact hl) (fun c hcm=>?_) (fun i c v hci hvi=>?_)
  · obtain ⟨i,hi,rfl⟩:=DH hcm
    have:=NS cs i
    rw [BH hi] at this
    cases hcs:cs[i]? with
    |none=>rw [hcs] at this;cases this
    |some c'=>rw [hcs] at this;simp only [Bn,AK] at this;rw [this];exact aH (hc c' (AT hcs))
  · rw [NS] at hci
    cases hcs:cs[i]? with
    |none=>rw [hcs] at hci;cases hci
    |some c'=>rw [hcs] at hci;simp only [Bn,AK] at hci;rw [← hci];exact ih i c' v hcs hvi
 |gp h=>simpa [AV.plain] using VR.gp h
 |ep hi hr=>simpa [AV.plain] using VR.ep hi hr
 |FD=>exact .d .FD
 |IL=>simpa [AV.plain] using VR.IL
 |ms h hr hn hm=>simpa [AV.plain] using VR.ms h hr hn hm
 |mv h hr hn hm ho=>simpa [AV.plain] using VR.mv h hr hn hm ho
 |bp h k=>simpa [AV.plain] using VR.bp h k
 |fn hl hl' h h' _ _=>simpa [AV.plain] using VR.fn hl hl' h h'
 |@tup cs vs hl _ ih=>
  refine .tup (by rw [Qg];exact hl) (fun i c v hci hvi=>?_)
  rw [NS] at hci
  cases hcs:cs[i]? with
  |none=>rw [hcs] at hci;cases hci
  |some c'=>rw [hcs] at hci;simp only [Bn,AK] at hci;rw [← hci];exact ih i c' v hcs hvi
 |undef=>simpa [AV.plain] using VR.undef
theorem VRs.plain {g:Gh} {xs:List AV} {vs:List Value} (h:VRs g xs vs):VRs g (AV.DM xs) vs:=by
 induction h with
 |nil=>exact .nil
 |cons h _ ih=>exact .cons h.plain ih
theorem AM.plain {f:FuncId} {args:List AV} {Q:AV→AF→Prop} (h:AM P f (AV.DM args) σ Q):AM P f args σ Q:=
 fun base g Pr w0 w vs hr hv=>h base g Pr w0 w vs hr hv.plain
def mT (o:Option AV) (K:AV→AF→Prop) (σ:AF):Prop:=
 match o with
 |some v=>K v σ
 |none=>False
theorem fT (v:AV) (K:AV→AF→Prop) (σ:AF):mT (some v) K σ=K v σ:=rfl
theorem Run.A1 {cx:Cx} {KK:AV→AF→Prop} {k:List CI} {σ2:AF} (hg:Good cx) (hσ:σ2.le σ) (h:mT ((Xj F L σ cx.rs).map AV.plain) KK σ2):Run cx KK (.code .ret::k) F L σ:=by
 cases hr:Xj F L σ cx.rs with
 |none=>rw [hr] at h;exact h.elim
 |some v=>rw [hr] at h;exact Run.ret hg hr (fun _ _ h=>h.plain) hσ h
theorem Run.Fu {cx:Cx} {KK:AV→AF→Prop} {k:List CI} {σ2:AF} (hg:Good cx) (hσ:σ2.le σ) (h:mT (Xj F L σ cx.rs) KK σ2):Run cx KK (.code .ret::k) F L σ:=by
 cases hr:Xj F L σ cx.rs with
 |none=>rw [hr] at h;exact h.elim
 |some v=>rw [hr] at h;exact Run.ret hg hr (fun _ _ h=>h) hσ h
theorem AL (σ:AF) (i j:Nat) (cs:List AV):(σ.AP i cs).blk j=if j=i then some cs else σ.blk j:=rfl
theorem F5 (σ:AF) (i:Nat) (cs ds:List AV):(σ.AP i cs).AP i ds=σ.AP i ds:=by
 unfold AF.AP
 congr 1
 funext j
 by_cases h:j=i<;>simp [h]
theorem H6 {σ:AF} {i:Nat} {cs:List AV} (h:σ.blk i=some cs):σ.AP i cs=σ:=by
 unfold AF.AP
 cases σ
 congr 1
 funext j
 split
 · rename_i e;subst e;exact h.symm
 · rfl
theorem QU (σ:AF) (t i:Nat):(σ.F2 t).blk i=σ.blk i:=rfl
theorem Zc (σ:AF) (t i:Nat):(σ.Ei t).blk i=σ.blk i:=rfl
theorem AF.le_trans {a b c:AF} (h:a.le b) (k:b.le c):a.le c:=⟨fun i cs x=>k.blk i cs (h.blk i cs x),fun t x=>k.tok t (h.tok t x),h.gt.trans k.gt,fun i x hx=>k.bt i x (h.bt i x hx)⟩
theorem Bj {σ:AF} {i:Nat} {cs:List AV} (h:σ.blk i=none):σ.le (σ.AP i cs):=
 ⟨fun j ds hj=>by
   have:j≠i:=fun e=>by rw [e,h] at hj;cases hj
   rw [AL,if_neg this];exact hj,fun _ h=>h,rfl,fun _ _ h=>h⟩
structure Cg (σ:AF) (e s:Nat) (rows:List (List DV)) (v:AV) (σ':AF):Prop where
 app:∃σ1,Nm σ' e s v=some (rows,σ1)∧σ.le σ1
 le:σ.le σ'
 plain:v.plain= .d (.sl rows)
 len:M6 v=some (.d (.int .i64 rows.length))
 cell:v.BW=true
 BZ:v.BZ=true
 Ar:∀k,v.Ar k=false
 dv:v.dv=some (.sl rows)
 cells:v.cells=[v]
theorem Cg.nil (σ:AF) (e s:Nat):Cg σ e s [] .AY σ:=
 ⟨⟨σ,rfl,AF.le_refl σ⟩,AF.le_refl σ,rfl,rfl,rfl,rfl,fun _=>rfl,rfl,rfl⟩
theorem Cg.own {σ σ1 σ':AF} {e s t:Nat} {rows:List (List DV)} (hle:σ.le σ1) (hle':σ.le σ') (ht:σ'.tok t=false):Cg σ e s rows (.own t e s rows) (σ1.F2 t):=by
 have hnt:σ.tok t=false:=by
  cases h:σ.tok t with
  |false=>rfl
  |true=>rw [hle'.tok t h] at ht;cases ht
 refine ⟨⟨(σ1.F2 t).Ei t,by simp [Nm,AF.F2],⟨fun i cs h=>hle.blk i cs h,fun t' h=>?_,hle.gt,hle.bt⟩⟩,⟨fun i cs h=>hle.blk i cs h,fun t' h=>?_,hle.gt,hle.bt⟩,rfl,rfl,rfl,rfl,fun _=>rfl,rfl,rfl⟩
 · have hne:t'≠t:=fun e=>by rw [e,hnt] at h;cases h
   simp [AF.Ei,AF.F2,hne,hle.tok t' h]
 · have hne:t'≠t:=fun e=>by rw [e,hnt] at h;cases h
   simp [AF.F2,hne,hle.tok t' h]
theorem Dy.own {σ0:AF} {d:Option Nat} {e size bytes:Nat} {s x:AV} {rows srows:List (List DV)} (ho:Cg σ0 e size rows s σ) (h2:x.rows=some srows)
 (h3:∀r∈srows,r.length=size) (h4:rows.length+srows.length≤1000000000) (hb:bytes≤10000)
 (h:∀v σ',Cg σ0 e size (rows++srows) v σ'→(∀i,σ'.blk i=σ.blk i)→K (Av d v F) L σ'):Dy e size bytes s x d K F L σ:=by
 obtain ⟨σ1,ha,hl⟩:=ho.app
 refine Dy.mk ha h2 h3 (by simp only [maxLen];omega) ?_ (fun t ht=>h _ _ (Cg.own hl ho.le ht) (fun i=>?_))
 · calc (rows.length+srows.length) * bytes≤1000000000 * 10000:=MD h4 hb
    _≤140737488355328:=by decide
 · rw [QU]
   unfold Nm at ha
   split at ha
   · cases ha;rfl
   · split at ha
     · cases ha;rfl
     · cases ha
   · cases ha
variable {cx:Cx} {KK:AV→AF→Prop} {k:List CI}
theorem Run.facts {p:Prop} (hp:∀base g lam Pr a w0 w,Bc base g lam Pr cx.N F L σ a w0 w→p) (h:p→Run cx KK k F L σ):Run cx KK k F L σ:=
 fun items base g lam Pr a w0 w b cs hi hf hb hk=>h (hp base g lam Pr a w0 w hf) items base g lam Pr a w0 w b cs hi hf hb hk
def AV.FB:AV→Prop
 | .d (.sl rows)=>rows.length≤9223372036854775807
 | .d (.str s)=>s.length≤9223372036854775807
 | .d (.int k n)=>k.min≤n∧n≤k.max
 | .own _ _ _ rows=>rows.length≤9223372036854775807
 | .clip rows=>rows.length≤9223372036854775807
 |_=>True
theorem VR.FB {g:Gh} {x:AV} {v:Value} (h:VR g x v):x.FB:=by
 cases h with
 |d h=>
  cases h with
  |int h=>exact h
  |bool=>trivial
  |str h=>exact h
  |nil=>simp [AV.FB]
  |sl hc hm _ _ _=>exact BR hc hm
  |ptr=>trivial
  |FD=>trivial
 |own h _ _=>obtain ⟨_,_,_,h2⟩:=h.Jf;exact h2
 |clip h=>obtain ⟨_,_,_,h2⟩:=h.Jf;exact h2
 |_=>trivial
theorem SV.FB {g:Gh} {lam:Nat→Option Nat} {x:AV} {v:Value} (h:SV g lam x v):x.FB:=by
 cases x<;>first|exact VR.FB h|trivial
theorem Run.slot (s:Nat) (h:(F s).FB→Run cx KK k F L σ):Run cx KK k F L σ:=
 Run.facts (fun _ _ _ _ _ _ _ hf=>(hf.tm s).FB) h
theorem Run.cell (j o:Nat) {cs:List AV} {c:AV} (hL:L j=some cs) (hc:cs[o]?=some c) (h:c.FB→Run cx KK k F L σ):Run cx KK k F L σ:=
 Run.facts (fun _ _ _ _ _ _ _ hf=>by
  obtain ⟨_,b,vs,ty,_,_,_,hr⟩:=hf.loc j cs hL
  obtain ⟨v,_,hv⟩:=hr.at o c hc
  exact hv.FB) h
end Go.Ab
