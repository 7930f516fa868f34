/- Compact code, its runs at the abstract level, and contracts out of runs. Equations that run compact code at the abstract level. Conditions: none. -/
import Derived.Scope
import Derived.Test.YtlckhmkeihbhmaaGreatXAb10d
set_option linter.unusedSimpArgs false
set_option linter.unusedVariables false
set_option maxRecDepth 4000
set_option maxHeartbeats 8000000
open List renaming range→An,all_cons→BP,getD_eq_getElem?_getD→Ap,getElem?_eq_some_iff→AR,mem_cons→Bc,all_nil→Cp,replicate→AH,getElem_of_mem→EB,getElem?_eq_getElem→BJ,mem_of_getElem?→AT
open Option.some renaming injEq→AJ
open Prod.mk renaming injEq→B4
open Option renaming getD_some→NK,map_eq_some_iff→AD,bind_eq_some_iff→AB,bind_eq_bind→AN,map_some→Bs
open Go renaming undef→Ca
open Bool renaming and_eq_true→AP,false_eq_true→AY
open Nat renaming le_refl→A0,mul_le_mul→Le,zero_le→Bu,le_trans→BS
open Array renaming replicate→EG,getD_eq_getD_getElem?→C9
namespace Go.Ab
open Go.RowKit
inductive C where
 |skip
 |reg (ops:List Q) (live:List Nat)
 |Rv (t:QT) (live:List Nat)
 |seq (x y:C)
 |cond (x:X) (t e:C)
 |block (id:Nat) (c:C)
 |loop (c:C)
 |exit (id:Nat)
 |ret
 |scope (c:C)
 |bad
inductive CI where
 |code (c:C)
 |blk (id:Nat)
 |scp
 |again (c:C)
def Yd (P:Program) (N:Nat) (esc:List Nat) (pf:List FuncId) (live:List Nat) (pt:PT) (ops:Array Oper):Option C:=
 match pt with
 | .done=>(Zp P N esc pf (An ops.size) ops).map fun q=>.reg q live
 |pt=>(Tl P N esc pf pt ops).map fun t=>match lin t with
  |some q=>.reg q live
  |none=>.Rv t live
def Fy (P:Program) (N:Nat) (esc:List Nat) (pf:List FuncId):Code→List (List Nat×PT)→Option (C×List (List Nat×PT))
 | .skip,ct=>some (.skip,ct)
 | .region _ ops false,(live,_)::ct=>some (((KO P N esc ops (An ops.size)).map fun q=>C.reg q live).getD .bad,ct)
 | .region _ ops true,(live,pt)::ct=>some ((Yd P N esc pf live pt ops).getD .bad,ct)
 | .seq x y,ct=>(Fy P N esc pf x ct).bind fun r=>(Fy P N esc pf y r.2).map fun r'=>(.seq r.1 r'.1,r'.2)
 | .cond c t e,ct=>(xo c).bind fun c'=>(Fy P N esc pf t ct).bind fun r=>(Fy P N esc pf e r.2).map fun r'=>(.cond c' r.1 r'.1,r'.2)
 | .block id c,ct=>(Fy P N esc pf c ct).map fun r=>(.block id r.1,r.2)
 | .loop c,ct=>(Fy P N esc pf c ct).map fun r=>(.loop r.1,r.2)
 | .exit id,ct=>some (.exit id,ct)
 | .ret,ct=>some (.ret,ct)
 | .scope c,ct=>(Fy P N esc pf c ct).map fun r=>(.scope r.1,r.2)
 | .label _,ct=>some (.skip,ct)
 |_,_=>none
inductive RV where
 |t (n:Nat)
 |c (n:Nat) (k:Option Nat)
def SQ (P:Program):List ResultVar→Option (List RV)
 |[]=>some []
 | .tmp n::l=>do some (.t n::(← SQ P l))
 | .cell n t::l=>do
  let k ← ldN P t
  some (.c n k::(← SQ P l))
def rvA (F:Fm) (L:Lm) (σ:AF):RV→Option AV
 | .t n=>some (F n)
 | .c n k=>ldA L σ (F n) k
def Z5 (F:Fm) (L:Lm) (σ:AF):List RV→Option (List AV)
 |[]=>some []
 |r::l=>do some ((← rvA F L σ r)::(← Z5 F L σ l))
def Ws (F:Fm) (L:Lm) (σ:AF) (rs:List RV):Option AV:=
 (Z5 F L σ rs).bind fun vs=>if vs.all AV.BY then (match vs with|[v]=>some v|vs=>some (.tup vs)) else none
def ME (ks:List Nat) (F:Fm):Fm:=fun s=>if s∈ks then F s else .undef
def IS (ks:List Nat) (L:Lm):Lm:=fun s=>if s∈ks then L s else none
variable {P:Program} {base N:Nat} {g g':Gh} {Pr:Nat→Prop} {σ σ':AF} {w0 w w':World} {lam:Nat→Option Nat} {F F':Fm} {L L':Lm} {a:Act}
theorem B9.mE (h:B9 base g lam Pr N F L σ a w0 w) (hF:∀s,F' s=F s∨F' s= .undef) (hL:∀k cs,L' k=some cs→L k=some cs) (hσ:σ'.le σ):B9 base g lam Pr N F' L' σ' a w0 w:=by
 refine ⟨fun s=>?_,h.sz,h.df,fun k cs hk=>h.loc k cs (hL k cs hk),h.inj,h.npr,h.rel.less hσ⟩
 rcases hF s with e|e
 · rw [e];exact h.tm s
 · rw [e];exact VR.undef
theorem B9.kept (h:B9 base g lam Pr N F L σ a w0 w) (ks:List Nat):B9 base g lam Pr N (ME ks F) (IS ks L) σ a w0 w:=
 h.mE (fun s=>by simp only [ME];split<;>simp) (fun k cs hk=>by simp only [IS] at hk;split at hk<;>simp_all) (AF.le_refl σ)
structure Cx where
 P:Program
 f:FuncId
 fn:Func
 N:Nat
 esc:List Nat
 pf:List FuncId
 rs:List RV
def RC (cx:Cx):C→Code→Prop
 | .skip,k=>k= .skip∨∃l,k= .label l
 | .scope c,k=>∃p,k= .scope p∧RC cx c p
 | .reg ops _,k=>∃id arr,(k= .region id arr false∧KO cx.P cx.N cx.esc arr (An arr.size)=some ops)∨(k= .region id arr true∧∃order,Zp cx.P cx.N cx.esc cx.pf order arr=some ops)∨(k= .region id arr true∧∃pt t,Tl cx.P cx.N cx.esc cx.pf pt arr=some t∧lin t=some ops)
 | .Rv t _,k=>∃id arr pt,k= .region id arr true∧Tl cx.P cx.N cx.esc cx.pf pt arr=some t
 | .seq x y,k=>∃p q,k= .seq p q∧RC cx x p∧RC cx y q
 | .cond x t e,k=>∃c p q,k= .cond c p q∧xo c=some x∧RC cx t p∧RC cx e q
 | .block id c,k=>∃p,k= .block id p∧RC cx c p
 | .loop c,k=>∃p,k= .loop p∧RC cx c p
 | .exit id,k=>k= .exit id
 | .ret,k=>k= .ret
 | .bad,_=>True
theorem AX (cx:Cx):∀(k:Code) (ct:List (List Nat×PT)) (c:C) (ct':List (List Nat×PT)),Fy cx.P cx.N cx.esc cx.pf k ct=some (c,ct')→RC cx c k
 | .skip,ct,c,ct',h=>by simp only [Fy,AJ,B4] at h;rw [← h.1];exact .inl rfl
 | .region id ops dr,ct,c,ct',h=>by
  cases ct with
  |nil=>cases dr<;>simp only [Fy] at h<;>cases h
  |cons lo ct=>
   obtain ⟨live,order⟩:=lo
   cases dr
   · simp only [Fy,AJ,B4] at h
     obtain ⟨rfl,_⟩:=h
     cases hq:KO cx.P cx.N cx.esc ops (An ops.size) with
     |none=>exact trivial
     |some qs=>exact ⟨id,ops,.inl ⟨rfl,hq⟩⟩
   · simp only [Fy,AJ,B4] at h
     obtain ⟨rfl,_⟩:=h
     cases hq:Yd cx.P cx.N cx.esc cx.pf live order ops with
     |none=>exact trivial
     |some c'=>
     simp only [NK]
     unfold Yd at hq
     split at hq
     · simp only [AD] at hq
       obtain ⟨qs,hq',rfl⟩:=hq
       exact ⟨id,ops,.inr (.inl ⟨rfl,_,hq'⟩)⟩
     · simp only [AD] at hq
       obtain ⟨t,ht,rfl⟩:=hq
       cases hl:lin t with
       |some q=>exact ⟨id,ops,.inr (.inr ⟨rfl,_,t,ht,hl⟩)⟩
       |none=>exact ⟨id,ops,_,rfl,ht⟩
 | .seq x y,ct,c,ct',h=>by
  simp only [Fy,AB,AD,B4] at h
  obtain ⟨⟨x',c1⟩,hx,⟨y',c2⟩,hy,rfl,_⟩:=h
  exact ⟨x,y,rfl,AX cx x _ _ _ hx,AX cx y _ _ _ hy⟩
 | .cond c t e,ct,c2,ct',h=>by
  simp only [Fy,AB,AD,B4] at h
  obtain ⟨x,hx,⟨t',c1⟩,ht,⟨e',c3⟩,he,rfl,_⟩:=h
  exact ⟨c,t,e,rfl,hx,AX cx t _ _ _ ht,AX cx e _ _ _ he⟩
 | .block id p,ct,c,ct',h=>by
  simp only [Fy,AD,B4] at h
  obtain ⟨⟨c',c1⟩,hc,rfl,_⟩:=h
  exact ⟨p,rfl,AX cx p _ _ _ hc⟩
 | .loop p,ct,c,ct',h=>by
  simp only [Fy,AD,B4] at h
  obtain ⟨⟨c',c1⟩,hc,rfl,_⟩:=h
  exact ⟨p,rfl,AX cx p _ _ _ hc⟩
 | .exit id,ct,c,ct',h=>by simp only [Fy,AJ,B4] at h;rw [← h.1];rfl
 | .ret,ct,c,ct',h=>by simp only [Fy,AJ,B4] at h;rw [← h.1];rfl
 | .rangeFunc ..,ct,c,ct',h=>by simp only [Fy] at h;cases h
 | .scope p,ct,c,ct',h=>by
  simp only [Fy,AD,B4] at h
  obtain ⟨⟨c',c1⟩,hc,rfl,_⟩:=h
  exact ⟨p,rfl,AX cx p _ _ _ hc⟩
 | .label l,ct,c,ct',h=>by simp only [Fy,AJ,B4] at h;rw [← h.1];exact .inr ⟨l,rfl⟩
 | .goto _,ct,c,ct',h=>by simp only [Fy] at h;cases h
 | .refuse _,ct,c,ct',h=>by simp only [Fy] at h;cases h
def RI (cx:Cx):CI→Item→Prop
 | .code c,y=>∃k,y= .code k∧RC cx c k
 | .blk id,y=>y= .inBlock id
 | .scp,y=>∃k,y= .inScope k
 | .again c,y=>∃k,y= .inLoop k∧RC cx c k
inductive RIs (cx:Cx):List CI→List Item→Prop
 |nil:RIs cx [] []
 |cons {x:CI} {y:Item} {xs:List CI} {ys:List Item} (h:RI cx x y) (hs:RIs cx xs ys):RIs cx (x::xs) (y::ys)
def Good (cx:Cx):Prop:=cx.P.funcs[cx.f]?=some cx.fn∧SQ cx.P cx.fn.results.toList=some cx.rs
def Run (cx:Cx) (K:AV→AF→Prop) (todo:List CI) (F:Fm) (L:Lm) (σ:AF):Prop:=
 ∀(items:List Item) (base:Nat) (g:Gh) (lam:Nat→Option Nat) (Pr:Nat→Prop) (a:Act) (w0 w:World) (b:Frame) (cs:List Frame),
  RIs cx todo items→B9 base g lam Pr cx.N F L σ a w0 w→b.fn=cx.f→b.kind= .normal→
  ∃v w' fr,Steps cx.P (lone (b.at a items) cs w) (lone fr cs w')∧fr.fn=cx.f∧fr.leaving cx.P w' (.returned v)∧
   ∃av g' σ',VR g' av v∧Rel base g' Pr σ' w0 w'∧g.le g'∧KP Pr w w'∧K av σ'
variable {cx:Cx} {K:AV→AF→Prop} {k:List CI}
theorem Run.mE (hF:∀s,F' s=F s∨F' s= .undef) (hL:∀k cs,L' k=some cs→L k=some cs) (hσ:σ'.le σ) (h:Run cx K k F' L' σ'):Run cx K k F L σ:=
 fun items base g lam Pr a w0 w b cs hi hf hb hk=>h items base g lam Pr a w0 w b cs hi (hf.mE hF hL hσ) hb hk
theorem Run.Jv {k':List CI}
 (hs:∀items,RIs cx k items→∃items',RIs cx k' items'∧∀(b:Frame) (a:Act) (cs:List Frame) (w:World),step cx.P (lone (b.at a items) cs w)= .next (lone (b.at a items') cs w))
 (h:Run cx K k' F L σ):Run cx K k F L σ:=by
 intro items base g lam Pr a w0 w b cs hi hf hb hk
 obtain ⟨items',hi',hst⟩:=hs items hi
 obtain ⟨v,w',fr,hss,rest⟩:=h items' base g lam Pr a w0 w b cs hi' hf hb hk
 exact ⟨v,w',fr,.head (hst b a cs w) hss,rest⟩
theorem RIs.code {c:C} {items:List Item} (h:RIs cx (.code c::k) items):∃p ys,items= .code p::ys∧RC cx c p∧RIs cx k ys:=by
 cases h with
 |cons hy hys=>obtain ⟨p,rfl,hp⟩:=hy;exact ⟨p,_,rfl,hp,hys⟩
theorem RIs.Ju {c:C} {p:Code} {ys:List Item} (hc:RC cx c p) (h:RIs cx k ys):RIs cx (.code c::k) (.code p::ys):= .cons ⟨p,rfl,hc⟩ h
theorem Run.skip (h:Run cx K k F L σ):Run cx K (.code .skip::k) F L σ:=
 h.Jv fun items hi=>by
  obtain ⟨p,ys,rfl,hp,hys⟩:=hi.code
  rcases hp with rfl|⟨l,rfl⟩
  · exact ⟨ys,hys,fun b a cs w=>step_skip⟩
  · exact ⟨ys,hys,fun b a cs w=>step_label⟩
theorem Run.scope {c:C} (h:Run cx K (.code c::.scp::k) F L σ):Run cx K (.code (.scope c)::k) F L σ:=
 h.Jv fun items hi=>by
  obtain ⟨p,ys,rfl,⟨p1,rfl,h1⟩,hys⟩:=hi.code
  exact ⟨_,.Ju h1 (.cons ⟨p1,rfl⟩ hys),fun b a cs w=>step_scope⟩
theorem Run.scp (h:Run cx K k F L σ):Run cx K (.scp::k) F L σ:=
 h.Jv fun items hi=>by
  cases hi with
  |cons hy hys=>obtain ⟨p,rfl⟩:=hy;exact ⟨_,hys,fun b a cs w=>step_inScope⟩
theorem Run.seq {x y:C} (h:Run cx K (.code x::.code y::k) F L σ):Run cx K (.code (.seq x y)::k) F L σ:=
 h.Jv fun items hi=>by
  obtain ⟨p,ys,rfl,⟨p1,p2,rfl,h1,h2⟩,hys⟩:=hi.code
  exact ⟨_,.Ju h1 (.Ju h2 hys),fun b a cs w=>step_seq⟩
theorem Run.block {id:Nat} {c:C} (h:Run cx K (.code c::.blk id::k) F L σ):Run cx K (.code (.block id c)::k) F L σ:=
 h.Jv fun items hi=>by
  obtain ⟨p,ys,rfl,⟨p1,rfl,h1⟩,hys⟩:=hi.code
  exact ⟨_,.Ju h1 (.cons rfl hys),fun b a cs w=>step_block⟩
theorem Run.blk {id:Nat} (h:Run cx K k F L σ):Run cx K (.blk id::k) F L σ:=
 h.Jv fun items hi=>by
  cases hi with
  |cons hy hys=>cases hy;exact ⟨_,hys,fun b a cs w=>step_inBlock⟩
theorem Run.loop {c:C} (h:Run cx K (.code c::.again c::k) F L σ):Run cx K (.code (.loop c)::k) F L σ:=
 h.Jv fun items hi=>by
  obtain ⟨p,ys,rfl,⟨p1,rfl,h1⟩,hys⟩:=hi.code
  exact ⟨_,.Ju h1 (.cons ⟨p1,rfl,h1⟩ hys),fun b a cs w=>step_loop⟩
theorem Run.again {c:C} (h:Run cx K (.code c::.again c::k) F L σ):Run cx K (.again c::k) F L σ:=
 h.Jv fun items hi=>by
  cases hi with
  |cons hy hys=>obtain ⟨p1,rfl,h1⟩:=hy;exact ⟨_,.Ju h1 (.cons ⟨p1,rfl,h1⟩ hys),fun b a cs w=>step_inLoop⟩
def Qj (id:Nat):List CI→Option (List CI)
 | .blk id'::k=>if id'=id then some k else Qj id k
 |_::k=>Qj id k
 |[]=>none
theorem Iz {id:Nat}:∀(k:List CI) (items:List Item) (k':List CI),RIs cx k items→Qj id k=some k'→∃items',exitTo id items=some items'∧RIs cx k' items'
 |[],_,_,_,h=>by cases h
 |x::k,items,k',hi,h=>by
  cases hi with
  |@cons _ y _ ys hy hys=>
   cases x with
   |code c=>
    obtain ⟨p,rfl,_⟩:=hy
    obtain ⟨i',h1,h2⟩:=Iz k ys k' hys (by simpa [Qj] using h)
    exact ⟨i',by simpa [exitTo] using h1,h2⟩
   |again c=>
    obtain ⟨p,rfl,_⟩:=hy
    obtain ⟨i',h1,h2⟩:=Iz k ys k' hys (by simpa [Qj] using h)
    exact ⟨i',by simpa [exitTo] using h1,h2⟩
   |scp=>
    obtain ⟨p,rfl⟩:=hy
    obtain ⟨i',h1,h2⟩:=Iz k ys k' hys (by simpa [Qj] using h)
    exact ⟨i',by simpa [exitTo] using h1,h2⟩
   |blk id'=>
    cases hy
    simp only [Qj] at h
    split at h
    · rename_i e
      cases h
      exact ⟨ys,by simp [exitTo,e],hys⟩
    · rename_i e
      obtain ⟨i',h1,h2⟩:=Iz k ys k' hys h
      exact ⟨i',by simpa [exitTo,e] using h1,h2⟩
theorem Run.exit {id:Nat} {k':List CI} (he:Qj id k=some k') (h:Run cx K k' F L σ):Run cx K (.code (.exit id)::k) F L σ:=
 h.Jv fun items hi=>by
  obtain ⟨p,ys,rfl,hp,hys⟩:=hi.code
  cases hp
  obtain ⟨i',h1,h2⟩:=Iz k ys k' hys he
  exact ⟨i',h2,fun b a cs w=>step_exit h1⟩
theorem Run.cond {x:X} {t e:C} {b:Bool} (hx:xv F x= .d (.bool b)) (ht:b=true→Run cx K (.code t::k) F L σ) (he:b=false→Run cx K (.code e::k) F L σ):
 Run cx K (.code (.cond x t e)::k) F L σ:=by
 intro items base g lam Pr a w0 w fb cs hi hf hb hk
 obtain ⟨p,ys,rfl,⟨c,p1,p2,rfl,hc,h1,h2⟩,hys⟩:=hi.code
 have hv:=A6 hc hf
 rw [hx] at hv
 have hev:a.eval c= .bool b:=by generalize a.eval c=vc at hv;cases hv with|d hh=>cases hh;rfl
 cases b with
 |true=>
  obtain ⟨v,w',fr,hs,rest⟩:=ht rfl _ base g lam Pr a w0 w fb cs (.Ju h1 hys) hf hb hk
  exact ⟨v,w',fr,.head (step_cond hev) hs,rest⟩
 |false=>
  obtain ⟨v,w',fr,hs,rest⟩:=he rfl _ base g lam Pr a w0 w fb cs (.Ju h2 hys) hf hb hk
  exact ⟨v,w',fr,.head (step_cond hev) hs,rest⟩
def aI (cx:Cx) (K:AV→AF→Prop) (k:List CI) (live:List Nat):CV:=fun F L σ=>Run cx K k (ME live F) (IS live L) σ
theorem Run.reg {ops:List Q} {live:List Nat} (hm:cx.P.follows .mixedOrders=true) (h:BR cx.P (aI cx K k live) ops F L σ):Run cx K (.code (.reg ops live)::k) F L σ:=by
 intro items base g lam Pr a w0 w b cs hi hf hb hk
 obtain ⟨p,ys,rfl,⟨id,arr,hp⟩,hys⟩:=hi.code
 have hw:p.wp cx.P (fun e a' w'=>e= .normal∧E1 base Pr cx.N w0 g w (aI cx K k live) a' w') a w:=by
  rcases hp with ⟨rfl,hc⟩|⟨rfl,order,hc⟩|⟨rfl,pt,t,hc,hl⟩
  · exact wp_region (Uw cx.P arr cx.N cx.esc (aI cx K k live) _ _ base g lam Pr F L σ a w0 w hc h hf (fun _ _ h=>⟨rfl,h⟩))
  · exact Ym hm hc h hf
  · exact SS hm hc (fP t ops F L σ hl h) hf
 obtain ⟨e,a',w',⟨he,g',lam',F',L',σ',hle,hkp,hf',hK⟩,harr⟩:=hw b ys cs
 subst he
 obtain ⟨v,w2,fr,hs,hfn,hl,av,g2,σ2,hvr,hrel,hle2,hkp2,hk2⟩:=hK ys base g' lam' Pr a' w0 w' b cs hys (hf'.kept live) hb hk
 exact ⟨v,w2,fr,Steps.trans harr hs,hfn,hl,av,g2,σ2,hvr,hrel,Gh.le_trans hle hle2,hkp.trans hkp2,hk2⟩
theorem Run.Rv {t:QT} {live:List Nat} (hm:cx.P.follows .mixedOrders=true) (h:XT cx.P (aI cx K k live) false t F L σ):Run cx K (.code (.Rv t live)::k) F L σ:=by
 intro items base g lam Pr a w0 w b cs hi hf hb hk
 obtain ⟨p,ys,rfl,⟨id,arr,pt,rfl,hc⟩,hys⟩:=hi.code
 have hw:(Code.region id arr true).wp cx.P (fun e a' w'=>e= .normal∧E1 base Pr cx.N w0 g w (aI cx K k live) a' w') a w:=SS hm hc h hf
 obtain ⟨e,a',w',⟨he,g',lam',F',L',σ',hle,hkp,hf',hK⟩,harr⟩:=hw b ys cs
 subst he
 obtain ⟨v,w2,fr,hs,hfn,hl,av,g2,σ2,hvr,hrel,hle2,hkp2,hk2⟩:=hK ys base g' lam' Pr a' w0 w' b cs hys (hf'.kept live) hb hk
 exact ⟨v,w2,fr,Steps.trans harr hs,hfn,hl,av,g2,σ2,hvr,hrel,Gh.le_trans hle hle2,hkp.trans hkp2,hk2⟩
theorem SB (hf:B9 base g lam Pr N F L σ a w0 w):∀(l:List ResultVar) (rs:List RV) (vs:List AV),SQ P l=some rs→Z5 F L σ rs=some vs→vs.all AV.BY=true→
 ∃xs:List Value,(l.mapM fun| .tmp t=>pure (a.tmps.getD t Ca)| .cell ad t=>do loadVar t (← asAddr (a.tmps.getD ad Ca)):Sem (List Value)).run P w= .ok xs w∧VRs g vs xs
 |[],rs,vs,hc,hv,_=>by
  simp only [SQ,AJ] at hc;subst hc
  simp only [Z5,AJ] at hv;subst hv
  exact ⟨[],by simp,.nil⟩
 | .tmp n::l,rs,vs,hc,hv,hn=>by
  simp only [SQ,AN,AB] at hc
  obtain ⟨rs',hrs,he⟩:=hc
  cases he
  simp only [Z5,AN,AB,rvA] at hv
  obtain ⟨v,hv1,vs',hvs,he⟩:=hv
  cases he;cases hv1
  simp only [BP,AP] at hn
  obtain ⟨xs,hx,hr⟩:=SB hf l rs' vs' hrs hvs hn.2
  exact ⟨a.tmps.getD n Ca::xs,by simp only [List.mapM_cons,Sem.run_bind,Sem.run_pure,Result.andThen_ok,hx],.cons ((hf.tm n).vr hn.1) hr⟩
 | .cell n t::l,rs,vs,hc,hv,hn=>by
  simp only [SQ,AN,AB] at hc
  obtain ⟨kk,hkk,rs',hrs,he⟩:=hc
  cases he
  simp only [Z5,AN,AB,rvA] at hv
  obtain ⟨v,hv1,vs',hvs,he⟩:=hv
  cases he
  simp only [BP,AP] at hn
  obtain ⟨xs,hx,hr⟩:=SB hf l rs' vs' hrs hvs hn.2
  obtain ⟨x,hld,hvr⟩:=Xf (P:=P) hkk hf (hf.tm n) hv1
  have hasaddr:(do loadVar t (← asAddr (a.tmps.getD n Ca)):Sem Value).run P w= .ok x w:=by
   have hs:=hf.tm n
   generalize a.tmps.getD n Ca=pn at hs hld
   cases hp:pn<;>simp only [hp,Instr.loadAt,Instr.sureAddr] at hld<;>try (simp at hld;done)
   rename_i ad
   cases ad with
   |none=>simp at hld
   |some ad=>simpa [asAddr,Instr.sureAddr] using hld
  exact ⟨x::xs,by simp only [Sem.run_bind] at hasaddr;simp only [List.mapM_cons,Sem.run_bind,hasaddr,hx,Result.andThen_ok,Sem.run_pure],.cons hvr hr⟩
theorem WC {fn:Func} {rs:List RV} (hc:SQ P fn.results.toList=some rs) (hf:B9 base g lam Pr N F L σ a w0 w) {v:AV} (hv:Ws F L σ rs=some v):
 ∃x,(results fn a.tmps).run P w= .ok x w∧VR g v x:=by
 simp only [Ws,AB] at hv
 obtain ⟨vs,hvs,hv⟩:=hv
 split at hv
 case isFalse=>cases hv
 rename_i hn
 obtain ⟨xs,hx,hr⟩:=SB (P:=P) hf _ rs vs hc hvs hn
 have hrun:(results fn a.tmps).run P w= .ok (if h:xs.toArray.size=1 then xs.toArray[0] else .tuple xs.toArray) w:=by
  unfold results
  rw [Array.mapM_eq_mapM_toList]
  simp only [Sem.run_bind,Sem.run_map,Sem.run_pure]
  exact congrArg (fun r:Result (List Value)=>(r.andThen fun a w'=>Result.ok a.toArray w').andThen fun (a:Array Value) w'=>Result.ok (if h:a.size=1 then a[0] else Value.tuple a) w') hx
 have hlen:=hr.length
 cases vs with
 |nil=>
  cases hv
  cases hr
  exact ⟨_,hrun,by simpa using VR.tup (g:=g) (cs:=[]) (vs:=[]) rfl (by simp)⟩
 |cons v1 vs=>
  cases vs with
  |nil=>
   cases hv
   cases hr with|cons h1 h2=>cases h2;exact ⟨_,hrun,by simpa using h1⟩
  |cons v2 vs=>
   cases hv
   refine ⟨_,hrun,?_⟩
   have hne:¬xs.toArray.size=1:=by simp at hlen ⊢;omega
   rw [dif_neg hne]
   exact .tup hr.length hr.idx
theorem Run.fin {σ2:AF} (hg:Good cx) {v v':AV} (hv:Ws F L σ cx.rs=some v) (hw:∀g x,VR g v x→VR g v' x) (hσ:σ2.le σ) (hK:K v' σ2):Run cx K [] F L σ:=by
 intro items base g lam Pr a w0 w b cs hi hf hb hk
 cases hi
 obtain ⟨x,hx,hvr⟩:=WC hg.2 hf hv
 refine ⟨x,w,_,.one step_end,hb,⟨rfl,hf.df,hk,cx.fn,by show cx.P.funcs[b.fn]?=_;rw [hb];exact hg.1,hx⟩,v',g,σ2,hw g x hvr,?_,Gh.le_refl g,KP.refl Pr w,hK⟩
 exact (hf.rel.less hσ).grow (A0 _) (fun _ _ _=>rfl) (Below.refl _ _) (fun b hp=>⟨(hf.rel.pr b (.inl hp)).1,.inl (.inl hp)⟩)
theorem Run.ret {σ2:AF} (hg:Good cx) {v v':AV} (hv:Ws F L σ cx.rs=some v) (hw:∀g x,VR g v x→VR g v' x) (hσ:σ2.le σ) (hK:K v' σ2):Run cx K (.code .ret::k) F L σ:=by
 intro items base g lam Pr a w0 w b cs hi hf hb hk
 obtain ⟨p,ys,rfl,hp,hys⟩:=hi.code
 cases hp
 obtain ⟨x,hx,hvr⟩:=WC hg.2 hf hv
 refine ⟨x,w,_,.one step_ret,hb,⟨rfl,hf.df,hk,cx.fn,by show cx.P.funcs[b.fn]?=_;rw [hb];exact hg.1,hx⟩,v',g,σ2,hw g x hvr,?_,Gh.le_refl g,KP.refl Pr w,hK⟩
 exact (hf.rel.less hσ).grow (A0 _) (fun _ _ _=>rfl) (Below.refl _ _) (fun b hp=>⟨(hf.rel.pr b (.inl hp)).1,.inl (.inl hp)⟩)
def BN (args:List AV):Fm:=fun s=>args.getD s .undef
theorem AW {args:List AV} {c:C} {code:Code} (hg:Good cx) (hb:cx.fn.body=some code) (hN:cx.fn.ntmps=cx.N) (hl:args.length≤cx.N) (hc:RC cx c code)
 (h:Run cx K [.code c] (BN args) (fun _=>none) σ):AL cx.P cx.f args σ K:=by
 intro base g Pr w0 w vs hrel hvs cs
 let b:Frame:= { (default:Frame) with fn:=cx.f,kind:= .normal}
 have henter:Frame.enter cx.P cx.f vs.toArray .normal=b.at { tmps:=vs.toArray++EG (cx.fn.ntmps - vs.toArray.size) Ca,defers:=[]} [.code code]:=by
  simp [Frame.enter,Frame.at,hg.1,hb,b]
 have hvl:=hvs.length
 have hf:B9 base g (fun _=>none) Pr cx.N (BN args) (fun _=>none) σ { tmps:=vs.toArray++EG (cx.fn.ntmps - vs.toArray.size) Ca,defers:=[]} w0 w:=by
  refine ⟨fun s=>?_,by simp;omega,rfl,fun k cs hk=>(by cases hk),fun k k' b hk=>(by cases hk),fun k b hk=>(by cases hk),?_⟩
  · simp only [BN,Ap]
    cases hs:args[s]? with
    |none=>exact VR.undef
    |some av=>
     obtain ⟨v,hv,hr⟩:=hvs.at s av hs
     have hlt:=(AR.1 hv).1
     have:(vs.toArray++EG (cx.fn.ntmps - vs.toArray.size) Ca).getD s Ca=v:=by
      simp only [C9]
      rw [Array.getElem?_append_left (by simpa using hlt)]
      simp [hv]
     show SV g _ av ((vs.toArray++EG (cx.fn.ntmps - vs.toArray.size) Ca).getD s Ca)
     rw [this];exact SV.E4 hr
  · exact hrel.grow (A0 _) (fun _ _ _=>rfl) (Below.refl _ _) (fun b hp=>by
     rcases hp with hp|⟨k,hk⟩
     · exact ⟨(hrel.pr b hp).1,.inl hp⟩
     · cases hk)
 obtain ⟨v,w',fr,hs,hfn,hlv,av,g',σ',h1,h2,h3,h4,h5⟩:=h [.code code] base g _ Pr _ w0 w b cs (.Ju hc .nil) hf rfl rfl
 rw [← henter] at hs
 exact ⟨.returned v,w',fr,⟨v,av,g',σ',rfl,h1,h2,h3,h4,h5⟩,hs,hfn,hlv⟩
end Go.Ab
namespace Go.Ab
open Go.RowKit
variable {P:Program} {K:CV} {F:Fm} {L:Lm} {σ:AF} {r:List Q}
def E:Lm:=fun _=>none
def Pd (k:Nat) (o:Option (List AV)) (L:Lm):Lm:=fun s=>if s=k then o else L s
theorem EX (d:Nat) (v:AV) (F:Fm) (s:Nat):put d v F s=if s=d then v else F s:=rfl
theorem gL (d:Nat) (cs:List AV) (L:Lm) (s:Nat):Az d cs L s=if s=d then some cs else L s:=rfl
theorem mZ (s:Nat):E s=none:=rfl
theorem m8 (s:Nat):U s= .undef:=rfl
theorem fJ (F:Fm):ME [] F=U:=rfl
theorem cH (k:Nat) (ks:List Nat) (F:Fm):ME (k::ks) F=put k (F k) (ME ks F):=by
 funext s
 simp only [ME,put,Bc]
 by_cases h:s=k
 · subst h;simp
 · simp [h]
theorem cG (L:Lm):IS [] L=E:=rfl
theorem ZF (k:Nat) (ks:List Nat) (L:Lm):IS (k::ks) L=Pd k (L k) (IS ks L):=by
 funext s
 simp only [IS,Pd,Bc]
 by_cases h:s=k
 · subst h;simp
 · simp [h]
theorem ZT (k:Nat) (cs:List AV) (L:Lm):Pd k (some cs) L=Az k cs L:=rfl
theorem jR (k:Nat):Pd k none E=E:=by funext s;simp [Pd,E]
theorem ZS (k j:Nat) (cs:List AV) (L:Lm):Pd k none (Az j cs L)=if j=k then Pd k none L else Az j cs (Pd k none L):=by
 funext s
 by_cases h:j=k
 · subst h
   simp only [if_true,Pd,Az]
   by_cases h2:s=j<;>simp [h2]
 · simp only [h,if_false,Pd,Az]
   by_cases h2:s=k
   · have h3:s≠j:=by omega
     rw [if_pos h2,if_neg h3,if_pos h2]
   · rw [if_neg h2]
     by_cases h3:s=j
     · rw [if_pos h3,if_pos h3]
     · rw [if_neg h3,if_neg h3,if_neg h2]
theorem dB (k:Nat) (cs ds:List AV) (L:Lm):Az k cs (Az k ds L)=Az k cs L:=by
 funext s;simp only [Az];split<;>rfl
theorem oI (F:Fm) (n:Nat):xv F (.t n)=F n:=rfl
theorem oH (F:Fm) (v:AV):xv F (.c v)=v:=rfl
theorem Bj (a:AV):BN [a]=put 0 a U:=by
 funext s;simp only [BN,put,U];cases s<;>simp
theorem BX (a b:AV):BN [a,b]=put 0 a (put 1 b U):=by
 funext s;simp only [BN,put,U]
 match s with|0=>rfl|1=>rfl|n+2=>simp
theorem LO (a b c:AV):BN [a,b,c]=put 0 a (put 1 b (put 2 c U)):=by
 funext s;simp only [BN,put,U]
 match s with|0=>rfl|1=>rfl|2=>rfl|n+3=>simp
theorem eF (a b c d:AV):BN [a,b,c,d]=put 0 a (put 1 b (put 2 c (put 3 d U))):=by
 funext s;simp only [BN,put,U]
 match s with|0=>rfl|1=>rfl|2=>rfl|3=>rfl|n+4=>simp
theorem eG (a b c d e:AV):BN [a,b,c,d,e]=put 0 a (put 1 b (put 2 c (put 3 d (put 4 e U)))):=by
 funext s;simp only [BN,put,U]
 match s with|0=>rfl|1=>rfl|2=>rfl|3=>rfl|4=>rfl|n+5=>simp
theorem jQ (k:Nat):Cu k U=U:=by funext s;simp [Cu,U,AV.BO]
theorem dA (k d:Nat) (v:AV) (F:Fm):Cu k (put d v F)=put d (if v.BO k then .undef else v) (Cu k F):=by
 funext s
 simp only [Cu,put]
 by_cases h:s=d<;>simp [h]
theorem lY (k:Nat) (x:DV):(AV.d x).BO k=false:=rfl
theorem cP (k:Nat):AV.AZ.BO k=false:=rfl
theorem fS (k t e s:Nat) (r:List (List DV)):(AV.own t e s r).BO k=false:=rfl
theorem cM (k:Nat) (r:List (List DV)):(AV.clip r).BO k=false:=rfl
theorem fR (k:Nat) (r:List AV):(AV.agg r).BO k=false:=rfl
theorem jG (k j o:Nat):(AV.lp j o).BO k=(j==k):=rfl
theorem jF (k j o:Nat):(AV.gp j o).BO k=false:=rfl
theorem jD (k o:Nat) (r:List DV):(AV.ep r o).BO k=false:=rfl
theorem cO (k:Nat):AV.Es.BO k=false:=rfl
theorem jH (k i n s e:Nat):(AV.ms i n s e).BO k=false:=rfl
theorem jI (k:Nat) (i o n s e:Nat):(AV.mv i o n s e).BO k=false:=rfl
theorem jC (k:Nat) (t e:Nat) (s:List UInt8):(AV.bp t e s).BO k=false:=rfl
theorem cN (k:Nat):AV.Hy.BO k=false:=rfl
theorem jE (k:Nat) (f:FuncId) (x y:List AV):(AV.fn f x y).BO k=false:=rfl
theorem fT (k:Nat) (x:List AV):(AV.tup x).BO k=false:=rfl
theorem ZH (k:Nat):AV.undef.BO k=false:=rfl
theorem iH (x:DV):AV.cells (AV.d x)=[(AV.d x)]:=rfl
theorem Yb:AV.cells AV.AZ=[AV.AZ]:=rfl
theorem aZ (t e s:Nat) (r:List (List DV)):AV.cells (AV.own t e s r)=[(AV.own t e s r)]:=rfl
theorem Y8 (r:List (List DV)):AV.cells (AV.clip r)=[(AV.clip r)]:=rfl
theorem aY (r:List AV):AV.cells (AV.agg r)=r:=rfl
theorem eN (j o:Nat):AV.cells (AV.lp j o)=[(AV.lp j o)]:=rfl
theorem eL (j o:Nat):AV.cells (AV.gp j o)=[(AV.gp j o)]:=rfl
theorem eJ (r:List DV) (o:Nat):AV.cells (AV.ep r o)=[(AV.ep r o)]:=rfl
theorem Ya:AV.cells AV.Es=[AV.Es]:=rfl
theorem eO (i n s e:Nat):AV.cells (AV.ms i n s e)=[(AV.ms i n s e)]:=rfl
theorem eP (i o n s e:Nat):AV.cells (AV.mv i o n s e)=[AV.mv i o n s e]:=rfl
theorem eI (t e:Nat) (s:List UInt8):AV.cells (AV.bp t e s)=[AV.bp t e s]:=rfl
theorem Y9:AV.cells AV.Hy=[AV.Hy]:=rfl
theorem eK (f:FuncId) (x y:List AV):AV.cells (AV.fn f x y)=[(AV.fn f x y)]:=rfl
theorem bA (x:List AV):AV.cells (AV.tup x)=[(AV.tup x)]:=rfl
theorem XP:AV.cells AV.undef=[AV.undef]:=rfl
theorem fG (x:DV):AV.BT (AV.d x)=true:=rfl
theorem Xe:AV.BT AV.AZ=true:=rfl
theorem ZC (t e s:Nat) (r:List (List DV)):AV.BT (AV.own t e s r)=true:=rfl
theorem Xa (r:List (List DV)):AV.BT (AV.clip r)=true:=rfl
theorem ZB (r:List AV):AV.BT (AV.agg r)=false:=rfl
theorem cB (j o:Nat):AV.BT (AV.lp j o)=false:=rfl
theorem cA (j o:Nat):AV.BT (AV.gp j o)=true:=rfl
theorem bZ (r:List DV) (o:Nat):AV.BT (AV.ep r o)=true:=rfl
theorem Xd:AV.BT AV.Es=true:=rfl
theorem cC (i n s e:Nat):AV.BT (AV.ms i n s e)=true:=rfl
theorem cD (i o n s e:Nat):AV.BT (AV.mv i o n s e)=true:=rfl
theorem bY (t e:Nat) (s:List UInt8):AV.BT (AV.bp t e s)=true:=rfl
theorem Xc:AV.BT AV.Hy=true:=rfl
theorem b8 (f:FuncId) (x y:List AV):AV.BT (AV.fn f x y)=true:=rfl
theorem ZD (x:List AV):AV.BT (AV.tup x)=false:=rfl
theorem We:AV.BT AV.undef=false:=rfl
theorem Fb (x:DV):AV.BY (AV.d x)=true:=rfl
theorem cY:AV.BY AV.AZ=true:=rfl
theorem gB (t e s:Nat) (r:List (List DV)):AV.BY (AV.own t e s r)=true:=rfl
theorem cV (r:List (List DV)):AV.BY (AV.clip r)=true:=rfl
theorem DM (r:List AV):AV.BY (AV.agg r)=true:=rfl
theorem jO (j o:Nat):AV.BY (AV.lp j o)=false:=rfl
theorem jN (j o:Nat):AV.BY (AV.gp j o)=true:=rfl
theorem jM (r:List DV) (o:Nat):AV.BY (AV.ep r o)=true:=rfl
theorem cX:AV.BY AV.Es=true:=rfl
theorem aA (i n s e:Nat):AV.BY (AV.ms i n s e)=true:=rfl
theorem jP (i o n s e:Nat):AV.BY (AV.mv i o n s e)=true:=rfl
theorem jL (t e:Nat) (s:List UInt8):AV.BY (AV.bp t e s)=true:=rfl
theorem cW:AV.BY AV.Hy=true:=rfl
theorem Zz (f:FuncId) (x y:List AV):AV.BY (AV.fn f x y)=true:=rfl
theorem gC (x:List AV):AV.BY (AV.tup x)=true:=rfl
theorem ZL:AV.BY AV.undef=true:=rfl
theorem oC (x:DV):AV.dv (AV.d x)=some x:=rfl
theorem iR:AV.dv AV.AZ=some (.sl []):=rfl
theorem lN (t e s:Nat) (r:List (List DV)):AV.dv (AV.own t e s r)=some (.sl r):=rfl
theorem iO (r:List (List DV)):AV.dv (AV.clip r)=some (.sl r):=rfl
theorem lM (r:List AV):AV.dv (AV.agg r)=none:=rfl
theorem nG (j o:Nat):AV.dv (AV.lp j o)=none:=rfl
theorem nF (j o:Nat):AV.dv (AV.gp j o)=none:=rfl
theorem nD (r:List DV) (o:Nat):AV.dv (AV.ep r o)=none:=rfl
theorem iQ:AV.dv AV.Es=some .Es:=rfl
theorem nI (i o n s e:Nat):AV.dv (AV.mv i o n s e)=none:=rfl
theorem nC (t e:Nat) (s:List UInt8):AV.dv (AV.bp t e s)=none:=rfl
theorem iP:AV.dv AV.Hy=none:=rfl
theorem nH (i n s e:Nat):AV.dv (AV.ms i n s e)=none:=rfl
theorem nE (f:FuncId) (x y:List AV):AV.dv (AV.fn f x y)=none:=rfl
theorem lO (x:List AV):AV.dv (AV.tup x)=none:=rfl
theorem eW:AV.dv AV.undef=none:=rfl
theorem dE:AV.rows AV.AZ=some []:=rfl
theorem gR (t e s:Nat) (r:List (List DV)):AV.rows (AV.own t e s r)=some r:=rfl
theorem dD (r:List (List DV)):AV.rows (AV.clip r)=some r:=rfl
theorem mB (r:List (List DV)):AV.rows (AV.d (.sl r))=some r:=rfl
theorem cK:NU AV.AZ=some (.d (.int .i64 0)):=rfl
theorem fO (t e s:Nat) (r:List (List DV)):NU (AV.own t e s r)=some (.d (.int .i64 r.length)):=rfl
theorem cJ (r:List (List DV)):NU (AV.clip r)=some (.d (.int .i64 r.length)):=rfl
theorem jA (i n s e:Nat):NU (AV.ms i n s e)=some (.d (.int .i64 n)):=rfl
theorem jB (i o n s e:Nat):NU (AV.mv i o n s e)=some (.d (.int .i64 n)):=rfl
theorem lX (r:List (List DV)):NU (AV.d (.sl r))=some (.d (.int .i64 r.length)):=rfl
theorem mT:BR P K [] F L σ=K F L σ:=rfl
theorem mY (b:Bool) (q:Q) (t:QT):XT P K b (.one q t) F L σ=BR P (XT P K false t) [q] F L σ:=by cases b<;>rfl
theorem mX (b:Bool) (q:Q) (t s:QT):XT P K b (.alt q t s) F L σ=(BR P (XT P K false t) [q] F L σ∧XT P K true s F L σ):=by cases b<;>rfl
theorem kQ:XT P K false .done F L σ=K F L σ:=rfl
theorem kR:XT P K true .done F L σ=True:=rfl
theorem hP (v:AV) (d:Nat):XPv (some v) (some d) K F L σ=K (put d v F) L σ:=rfl
theorem n9 (d:Nat) (x:X):BR P K (⟨some d,.mv x,none⟩::r) F L σ=BR P K r (put d (xv F x) F) L σ:=rfl
theorem kL (d:Option Nat) (x y z:X):BR P K (⟨d,.pick x y z,none⟩::r) F L σ=XPv (Xj (xv F x) (xv F y) (xv F z)) d (BR P K r) F L σ:=rfl
theorem mM (d:Option Nat) (x:X) (o:Nat):BR P K (⟨d,.fld x o,none⟩::r) F L σ=XPv (Yp (xv F x) o) d (BR P K r) F L σ:=rfl
theorem nZ (d:Option Nat) (x:X) (n:Option Nat):BR P K (⟨d,.ld x n,none⟩::r) F L σ=XPv (ldA L σ (xv F x) n) d (BR P K r) F L σ:=rfl
theorem nY (d:Option Nat) (x y:X) (n:Nat):BR P K (⟨d,.ix x y n,none⟩::r) F L σ=XPv (ixA (xv F x) (xv F y) n) d (BR P K r) F L σ:=rfl
theorem kN (d:Option Nat) (x y:X):BR P K (⟨d,.L7 x y,none⟩::r) F L σ=XPv (Uk (xv F x) (xv F y)) d (BR P K r) F L σ:=rfl
theorem mO (d:Option Nat) (x:X):BR P K (⟨d,.len x,none⟩::r) F L σ=XPv (NU (xv F x)) d (BR P K r) F L σ:=rfl
theorem kO (d:Option Nat) (x:X):BR P K (⟨d,.Gn x,none⟩::r) F L σ=XPv (WG (xv F x)) d (BR P K r) F L σ:=rfl
theorem mH (d:Option Nat) (op:BinOp) (x y:X):BR P K (⟨d,.bin op x y,none⟩::r) F L σ=XPv (aQ op (xv F x) (xv F y)) d (BR P K r) F L σ:=rfl
theorem kF (d:Option Nat) (op:BinOp) (x y:X):BR P K (⟨d,.aS op x y,none⟩::r) F L σ=XPv (Vh op (xv F x) (xv F y)) d (BR P K r) F L σ:=rfl
theorem oB (d:Option Nat) (op:UnOp) (x:X):BR P K (⟨d,.un op x,none⟩::r) F L σ=XPv (unA op (xv F x)) d (BR P K r) F L σ:=rfl
theorem kK (d:Option Nat) (k:IntKind) (x:X):BR P K (⟨d,.conv k x,none⟩::r) F L σ=XPv (Vo k (xv F x)) d (BR P K r) F L σ:=rfl
theorem mI (d:Option Nat) (z:List AV) (ps:List (Nat×Nat×X)):BR P K (⟨d,.bld z ps,none⟩::r) F L σ=XPv ((HL z F ps).map .agg) d (BR P K r) F L σ:=rfl
theorem mK (d:Option Nat) (s n:Nat) (z:List AV) (ps:List (Nat×Nat×X)):BR P K (⟨d,.bsl s n z ps,none⟩::r) F L σ=XPv (((HL z F ps).bind dvs).map fun l=>.d (.sl (chunk s n l))) d (BR P K r) F L σ:=rfl
theorem mP (d:Option Nat) (f:FuncId) (x y:List X):BR P K (⟨d,.mkf f x y,none⟩::r) F L σ=XPv (if (xvs F x++xvs F y).all AV.BY then some (.fn f (xvs F x) (xvs F y)) else none) d (BR P K r) F L σ:=rfl
theorem mL (d:Option Nat) (x:X) (i:Nat):BR P K (⟨d,.ext x i,none⟩::r) F L σ=XPv (bI (xv F x) i) d (BR P K r) F L σ:=rfl
theorem mS (d:Option Nat) (x:X):BR P K (⟨d,.nck x,none⟩::r) F L σ=XPv (fY (xv F x)) d (BR P K r) F L σ:=rfl
theorem n8 (d:Option Nat) (b:Bool) (x y:X):BR P K (⟨d,.mm b x y,none⟩::r) F L σ=XPv (mmA b (xv F x) (xv F y)) d (BR P K r) F L σ:=rfl
theorem mJ (d:Nat) (x:X):BR P K (⟨some d,.box x false,none⟩::r) F L σ=(Ad (xv F x).cells=true∧BR P K r (put d (.lp d 0) (Cu d F)) (Az d (xv F x).cells L) σ):=rfl
theorem nR (d:Nat) (z:List AV):BR P K (⟨some d,.al z false,none⟩::r) F L σ=(Ad z=true∧BR P K r (put d (.lp d 0) (Cu d F)) (Az d z L) σ):=rfl
theorem kG (d:Nat) (x:X):BR P K (⟨some d,.box x true,none⟩::r) F L σ=(Ad (xv F x).cells=true∧∀i,σ.blk i=none→BR P K r (put d (.gp i 0) F) L (σ.AO i (xv F x).cells)):=rfl
theorem mF (d:Nat) (z:List AV):BR P K (⟨some d,.al z true,none⟩::r) F L σ=(Ad z=true∧∀i,σ.blk i=none→BR P K r (put d (.gp i 0) F) L (σ.AO i z)):=rfl
def lB (K:CV) (F:Fm):Option (Lm×AF)→Prop
 |some (L',σ')=>K F L' σ'
 |none=>False
theorem hU (F:Fm) (L':Lm) (σ':AF):lB K F (some (L',σ'))=K F L' σ':=rfl
theorem oA (x v:X) (n:Nat):BR P K (⟨none,.st x v n,none⟩::r) F L σ=(Ad (xv F v).cells=true∧(xv F v).cells.length=n∧lB (BR P K r) F (stA L σ (xv F v).cells (xv F x))):=by
 show XSt _ _ _ _ _ _ _ _=_
 unfold XSt lB
 simp only [true_and]
 cases stA L σ (xv F v).cells (xv F x)<;>rfl
theorem nU (d:Option Nat) (o:O) (s:Nat) (want:Bool):BR P K (⟨d,o,some (s,want)⟩::r) F L σ=XG (gdV want (F s)) (BR P K (⟨d,o,none⟩::r) F L σ) (BR P K r (Ar d (.tup []) F) L σ):=rfl
theorem nX (d:Option Nat) (o:O) (s:Nat) (want:Bool) (h:gdV want (F s)=some true):BR P K (⟨d,o,some (s,want)⟩::r) F L σ=BR P K (⟨d,o,none⟩::r) F L σ:=by rw [nU,h];rfl
theorem nV (d:Option Nat) (o:O) (s:Nat) (want:Bool) (h:gdV want (F s)=some false):BR P K (⟨d,o,some (s,want)⟩::r) F L σ=BR P K r (Ar d (.tup []) F) L σ:=by rw [nU,h];rfl
theorem nJ (want b:Bool):gdV want (.d (.bool b))=some (b==want):=rfl
theorem nK (want:Bool):gdV want (.tup [])=some false:=rfl
theorem dC (d:Nat) (v:AV) (F:Fm):Ar (some d) v F=put d v F:=rfl
theorem kJ (d:Option Nat) (f:FuncId) (args:List X):BR P K (⟨d,.call f args,none⟩::r) F L σ=AI P f (xvs F args) d (BR P K r) F L σ:=rfl
theorem hM (d:Option Nat) (f:FuncId) (args:List X):BR P K (⟨d,.S1 f args,none⟩::r) F L σ=TX P f (xvs F args) d (BR P K r) F L σ:=rfl
theorem mG (d:Option Nat) (e s b:Nat) (x y:X):BR P K (⟨d,.app e s b x y,none⟩::r) F L σ=EY e s b (xv F x) (xv F y) d (BR P K r) F L σ:=rfl
def k5 (P:Program) (x:AV) (args:List AV) (dst:Option Nat) (K:CV) (F:Fm) (L:Lm) (σ:AF):Prop:=
 ∃f first caps,x= .fn f first caps∧C2 P f=true∧AI P f (first++args++caps) dst K F L σ
theorem hJ (d:Option Nat) (x:X) (args:List X):BR P K (⟨d,.FL x args,none⟩::r) F L σ=k5 P (xv F x) (xvs F args) d (BR P K r) F L σ:=rfl
theorem mR (d:Option Nat) (e s b:Nat) (z:List AV) (x y:X):BR P K (⟨d,.msl e s b z x y,none⟩::r) F L σ=S9 e s b z (xv F x) (xv F y) d (BR P K r) F L σ:=rfl
theorem kE (d:Option Nat) (e s b:Nat) (x y:X):BR P K (⟨d,.Uz e s b x y,none⟩::r) F L σ=XE e s b (xv F x) (xv F y) d (BR P K r) F L σ:=rfl
theorem mW (d:Option Nat) (x y:X):BR P K (⟨d,.trn x y,none⟩::r) F L σ=lC (xv F x) (xv F y) d (BR P K r) F L σ:=rfl
theorem kI (d:Option Nat) (e s n:Nat) (z:List AV) (ps:List (Nat×Nat×X)):BR P K (⟨d,.QY e s n z ps,none⟩::r) F L σ=TV e s n (HL z F ps) d (BR P K r) F L σ:=rfl
theorem mN (d:Option Nat) (x:X) (n:Option Nat):BR P K (⟨d,.ldl x n,none⟩::r) F L σ=XPv (Wj L (xv F x) n) d (BR P K r) F L σ:=rfl
theorem nT (d:Option Nat) (x:X) (o:Nat) (n:Option Nat):BR P K (⟨d,.fd x o n,none⟩::r) F L σ=XPv (fdA (xv F x) o n) d (BR P K r) F L σ:=rfl
theorem mV (d:Option Nat) (x:X) (a b:Option X):BR P K (⟨d,.ssl x a b,none⟩::r) F L σ=XPv (OZ (xv F x) (a.map (xv F)) (b.map (xv F))) d (BR P K r) F L σ:=rfl
theorem mU (d:Option Nat) (x:X) (a b c:Option X) (n:Nat):BR P K (⟨d,.sls x a b c n,none⟩::r) F L σ=XPv (dG (xv F x) (a.map (xv F)) (b.map (xv F)) (c.map (xv F)) n) d (BR P K r) F L σ:=rfl
theorem kM (d:Option Nat) (ne:Bool) (x:X):BR P K (⟨d,.Xm ne x,none⟩::r) F L σ=XPv (Vz ne (xv F x)) d (BR P K r) F L σ:=rfl
theorem kP (d:Option Nat) (ne:Bool) (n:Nat) (x y:X):BR P K (⟨d,.YJ ne n x y,none⟩::r) F L σ=XPv (WI ne n (xv F x) (xv F y)) d (BR P K r) F L σ:=rfl
theorem mQ (d:Option Nat) (b:Bool) (x y z:X):BR P K (⟨d,.mm3 b x y z,none⟩::r) F L σ=XPv ((mmA b (xv F x) (xv F y)).bind fun v=>mmA b v (xv F z)) d (BR P K r) F L σ:=rfl
theorem kH (d:Option Nat) (x:X):BR P K (⟨d,.aU x,none⟩::r) F L σ=XPv ((dvs (xv F x).cells).map fun ds=>.d (.ptr ds)) d (BR P K r) F L σ:=rfl
theorem nS (d:Option Nat) (k:EK) (xs:List X):BR P K (⟨d,.ex k xs,none⟩::r) F L σ=XEx k (xvs F xs) d (BR P K r) F L σ:=rfl
theorem kC (d:Option Nat) (args:List AV):XEx .cap args d K F L σ=XPv (exP .cap args) d K F L σ:=rfl
theorem kB (d:Option Nat) (args:List AV):XEx .b2s args d K F L σ=XPv (exP .b2s args) d K F L σ:=rfl
theorem kD (d:Option Nat) (args:List AV):XEx .usd args d K F L σ=XPv (exP .usd args) d K F L σ:=rfl
theorem kA (d:Nat) (t:Nat) (z:List AV):XEx (.alt t z) [] (some d) K F L σ=(Ad z=true∧∀i,(σ.blk i=none∧σ.bt i=none)→K (put d (.gp i 0) F) L ((σ.AO i z).DF i (z.length,t))):=by
 simp only [XEx,EK.pure,AY,if_false,Cp,true_and,ExR,Ar]
theorem XEx.YH {d:Nat} {ne b:Bool} {v:AV} (hn:v.BY=true) (hv:ZJ v=some b) (h:K (put d (.d (.bool (b != ne))) F) L σ):XEx (.YH ne) [v] (some d) K F L σ:=by
 refine ⟨by simp [hn],?_⟩
 show (match ZJ v with|some b=>_|none=>_)
 rw [hv];exact h
theorem XEx.apps {d:Option Nat} {e:Nat} {s:AV} {x:List UInt8} {rows:List (List DV)} {σ1:AF} (hn:s.BY=true) (ha:NM σ e 1 s=some (rows,σ1)) (hl:rows.length+x.length≤140737488355328)
 (h:∀t,σ.tok t=false→K (Ar d (.own t e 1 (rows++CD x)) F) L (σ1.Fu t)):XEx (.apps e) [s,.d (.str x)] d K F L σ:=
 ⟨by rw [BP,hn];rfl,rows,σ1,ha,hl,h⟩
theorem XEx.aN {d:Option Nat} {e size bytes:Nat} {z:List AV} {k:IntKind} {n:Nat} (h0:0 < n) (hb:bytes≤10000) (hn:n≤1000000000)
 (h:∀j,σ.blk j=none→K (Ar d (.ms j n size e) F) L (σ.AO j (AH n z).flatten)):XEx (.aN e size bytes z) [.AZ,.d (.int k n)] d K F L σ:=by
 refine ⟨rfl,by omega,?_,by omega,?_⟩
 · have h1:n * bytes≤1000000000 * 10000:=Le hn hb
   have h2:((n * bytes:Nat):Int)≤((1000000000 * 10000:Nat):Int):=Int.ofNat_le.2 h1
   rw [Int.natCast_mul] at h2
   exact Int.le_trans h2 (by decide)
 · simpa using h
theorem XEx.dR {d:Option Nat} {e t:Nat} {s:List UInt8} {n:Int} (hl:n=s.length) (h0:s≠[]) (ht:σ.tok t=true) (h:K (Ar d (.d (.str s)) F) L (σ.Ed t)):XEx (.dR e) [.bp t e s,.d (.int .i64 n)] d K F L σ:=
 ⟨rfl,⟨rfl,hl⟩,h0,ht,h⟩
theorem XE.mk {d:Option Nat} {e size bytes n:Nat} {s x:AV} {cs:List AV} {srows:List (List DV)} {σ1:AF} (h1:Ku σ e size s=some (n,cs,σ1)) (h2:x.rows=some srows)
 (h3:∀r∈srows,r.length=size) (h4:srows≠[]) (h5:n+srows.length≤1000000000) (hb:bytes≤10000)
 (h:∀j,σ.blk j=none→K (Ar d (.ms j (n+srows.length) size e) F) L (σ1.AO j (cs++GL srows))):XE e size bytes s x d K F L σ:=
 ⟨n,cs,σ1,srows,h1,h2,h3,fun e=>absurd e h4,by simp only [maxLen];omega,by
   calc (n+srows.length) * bytes≤1000000000 * 10000:=Le h5 hb
    _≤140737488355328:=by decide,fun _=>h⟩
theorem TV.mk {d:Option Nat} {e s n:Nat} {cs:List AV} (h:∀j,σ.blk j=none→K (Ar d (.ms j n s e) F) L (σ.AO j cs)):TV e s n (some cs) d K F L σ:=⟨cs,rfl,h⟩
theorem iG (n:Nat):Sb n none none=some (0,n):=by simp [Sb]
theorem S9.mk {d:Option Nat} {e s b:Nat} {z:List AV} (n:Nat) (hb:b * n≤281474976710656) (hn:n≤9223372036854775807) (h:∀i,σ.blk i=none→K (Ar d (.ms i n s e) F) L (σ.AO i (AH n z).flatten)):
 S9 e s b z (.d (.int .i64 n)) (.d (.int .i64 n)) d K F L σ:=
 ⟨.i64,.i64,n,rfl,rfl,by omega,by rw [← Int.natCast_mul];omega,by omega,fun i hi=>by simpa using h i hi⟩
theorem AI.mk {d:Option Nat} {f:FuncId} {args:List AV} {Q:AV→AF→Prop} (hn:args.all AV.BY=true) (h:AL P f args σ Q) (hk:∀v σ',Q v σ'→K (Ar d v F) L σ'):
 AI P f args d K F L σ:=⟨hn,Q,h,hk⟩
theorem TX.mk {d:Option Nat} {f:FuncId} {args:List AV} {v:AV} (hn:args.all AV.BY=true) (h:AL P f args σ (fun v' σ'=>v'=v∧σ'=σ)) (hk:K (Ar d v F) L σ) (hv:v.BY=true:=by rfl):
 TX P f args d K F L σ:=⟨hn,v,⟨hv,h⟩,hk⟩
theorem EY.mk {d:Option Nat} {e size bytes:Nat} {s x:AV} {rows srows:List (List DV)} {σ1:AF} (h1:NM σ e size s=some (rows,σ1)) (h2:x.rows=some srows)
 (h3:∀r∈srows,r.length=size) (h4:rows.length+srows.length≤maxLen) (h5:(rows.length+srows.length) * bytes≤140737488355328)
 (h:∀t,σ.tok t=false→K (Ar d (.own t e size (rows++srows)) F) L (σ1.Fu t)):EY e size bytes s x d K F L σ:= .inl ⟨rows,σ1,srows,h1,h2,h3,h4,h5,h⟩
theorem EY.clip {d:Option Nat} {e size bytes:Nat} {x:AV} {rows srows:List (List DV)} (h2:x.rows=some srows)
 (h3:∀r∈rows,r.length=size) (h3':∀r∈srows,r.length=size) (h4:rows.length+srows.length≤1000000000) (hb:bytes≤10000)
 (h:K (Ar d (.d (.sl (rows++srows))) F) L σ):EY e size bytes (.clip rows) x d K F L σ:=
 .inr ⟨rows,srows,rfl,h2,h3,h3',by simp only [maxLen];omega,by
  calc (rows.length+srows.length) * bytes≤1000000000 * 10000:=Le h4 hb
   _≤140737488355328:=by decide,h⟩
theorem AL.args {f:FuncId} {args args':List AV} {Q:AV→AF→Prop} (h:AL P f args' σ Q) (hw:∀g vs,VRs g args vs→VRs g args' vs):AL P f args σ Q:=
 fun base g Pr w0 w vs hr hv=>h base g Pr w0 w vs hr (hw g vs hv)
theorem TW:∀(ops:List Q) {K K':CV} {F:Fm} {L:Lm} {σ:AF},(∀F L σ,K F L σ→K' F L σ)→BR P K ops F L σ→BR P K' ops F L σ
 |[],_,_,_,_,_,hk,hx=>hk _ _ _ hx
 |q::rest,K,K',F,L,σ,hk,hx=>by
  have hx:XG (gd F q.grd) (XO P q.dst (BR P K rest) F L σ q.o) (BR P K rest (Ar q.dst (.tup []) F) L σ):=hx
  show XG (gd F q.grd) (XO P q.dst (BR P K' rest) F L σ q.o) (BR P K' rest (Ar q.dst (.tup []) F) L σ)
  cases hc:gd F q.grd with
  |none=>rw [hc] at hx;exact hx.elim
  |some b=>
   rw [hc] at hx
   cases b
   · exact TW rest hk hx
   · exact YW (fun F L σ h=>TW rest hk h) hx
def Cut (live:List Nat) (F0:Fm) (L0:Lm) (σ0:AF):CV:=fun F L σ=>ME live F=F0∧IS live L=L0∧σ=σ0
theorem Run.mA {cx:Cx} {KK:AV→AF→Prop} {k:List CI} {ops:List Q} {live:List Nat} (hm:cx.P.follows .mixedOrders=true) (F0:Fm) (L0:Lm) (σ0:AF)
 (h1:BR cx.P (Cut live F0 L0 σ0) ops F L σ) (h2:Run cx KK k F0 L0 σ0):Run cx KK (.code (.reg ops live)::k) F L σ:=
 Run.reg hm (TW ops (fun F L σ h=>by obtain ⟨e1,e2,e3⟩:=h;show Run cx KK k (ME live F) (IS live L) σ;rw [e1,e2,e3];exact h2) h1)
theorem Zb {P:Program} {m m1 m':Machine} (h:step P m= .next m1) (hs:Steps P m m') (hne:m≠m'):Steps P m1 m':=by
 obtain ⟨n,hn⟩:=hs
 cases n with
 |zero=>simp only [runN] at hn;cases hn;exact absurd rfl hne
 |succ n=>simp only [runN,h] at hn;exact ⟨n,hn⟩
theorem Run.BD {cx:Cx} {KK:AV→AF→Prop} {k:List CI} {c:C} (h:Run cx KK (.again c::k) F L σ):Run cx KK (.code (.loop c)::k) F L σ:=by
 intro items base g lam Pr a w0 w b cs hi hf hb hk
 obtain ⟨p,ys,rfl,⟨p1,rfl,h1⟩,hys⟩:=hi.code
 obtain ⟨v,w',fr,hs,hfn,hl,rest⟩:=h (.inLoop p1::ys) base g lam Pr a w0 w b cs (.cons ⟨p1,rfl,h1⟩ hys) hf hb hk
 refine ⟨v,w',fr,.head step_loop (Zb step_inLoop hs fun e=>?_),hfn,hl,rest⟩
 have h2:(lone (b.at a (.inLoop p1::ys)) cs w).gs=(lone fr cs w').gs:=by rw [e]
 simp only [lone,Array.mk.injEq,List.cons.injEq,Goroutine.mk.injEq] at h2
 have h3:(b.at a (.inLoop p1::ys)).mode=fr.mode:=by rw [h2.1.1]
 rw [hl.1] at h3
 cases h3
def Vg (v:AV) (A B:Prop):Prop:=
 match v with
 | .d (.bool b)=>(b=true→A)∧(b=false→B)
 |_=>False
theorem j2 (b:Bool) (A B:Prop):Vg (.d (.bool b)) A B=((b=true→A)∧(b=false→B)):=rfl
theorem j9 (A B:Prop):Vg (.d (.bool true)) A B=A:=by simp [Vg]
theorem j8 (A B:Prop):Vg (.d (.bool false)) A B=B:=by simp [Vg]
theorem Run.AE {cx:Cx} {KK:AV→AF→Prop} {k:List CI} {x:X} {t e:C} (h:Vg (xv F x) (Run cx KK (.code t::k) F L σ) (Run cx KK (.code e::k) F L σ)):Run cx KK (.code (.cond x t e)::k) F L σ:=by
 cases hx:xv F x<;>rw [hx] at h<;>try exact h.elim
 rename_i dv
 cases dv<;>try exact h.elim
 exact Run.cond hx h.1 h.2
mutual
def AV.plain:AV→AV
 | .AZ=>.d (.sl [])
 | .Es=>.d .Es
 | .own _ _ _ rows=>.d (.sl rows)
 | .clip rows=>.d (.sl rows)
 | .agg cs=>.agg (AV.DI cs)
 | .tup vs=>.tup (AV.DI vs)
 |v=>v
def AV.DI:List AV→List AV
 |[]=>[]
 |v::l=>AV.plain v::AV.DI l
end
theorem G0 (x:DV):AV.plain (AV.d x)=(AV.d x):=by simp only [AV.plain]
theorem Mk:AV.plain AV.AZ= .d (.sl []):=by simp only [AV.plain]
theorem c7 (t e s:Nat) (r:List (List DV)):AV.plain (AV.own t e s r)= .d (.sl r):=by simp only [AV.plain]
theorem ZP (r:List (List DV)):AV.plain (AV.clip r)= .d (.sl r):=by simp only [AV.plain]
theorem I9 (r:List AV):AV.plain (AV.agg r)= .agg (AV.DI r):=by simp only [AV.plain]
theorem gG (j o:Nat):AV.plain (AV.lp j o)=(AV.lp j o):=by simp only [AV.plain]
theorem UQ (j o:Nat):AV.plain (AV.gp j o)=(AV.gp j o):=by simp only [AV.plain]
theorem gF (r:List DV) (o:Nat):AV.plain (AV.ep r o)=(AV.ep r o):=by simp only [AV.plain]
theorem UR:AV.plain AV.Es= .d .Es:=by simp only [AV.plain]
theorem gH (i n s e:Nat):AV.plain (AV.ms i n s e)=(AV.ms i n s e):=by simp only [AV.plain]
theorem gI (i o n s e:Nat):AV.plain (AV.mv i o n s e)=(AV.mv i o n s e):=by simp only [AV.plain]
theorem gE (t e:Nat) (s:List UInt8):AV.plain (AV.bp t e s)=(AV.bp t e s):=by simp only [AV.plain]
theorem ZQ:AV.plain AV.Hy=AV.Hy:=by simp only [AV.plain]
theorem plain_fn (f:FuncId) (x y:List AV):AV.plain (AV.fn f x y)=(AV.fn f x y):=by simp only [AV.plain]
theorem c8 (x:List AV):AV.plain (AV.tup x)= .tup (AV.DI x):=by simp only [AV.plain]
theorem Xl:AV.plain AV.undef=AV.undef:=by simp only [AV.plain]
theorem Ml:∀(l:List AV) (i:Nat),(AV.DI l)[i]?=(l[i]?).map AV.plain
 |[],i=>by simp [AV.DI]
 |v::l,0=>by simp [AV.DI]
 |v::l,i+1=>by simp [AV.DI,Ml l i]
theorem QF:∀l:List AV,(AV.DI l).length=l.length
 |[]=>rfl
 |v::l=>by simp [AV.DI,QF l]
theorem ZO {v:AV} (h:v.BT=true):v.plain.BT=true:=by cases v<;>first|rfl|(cases h;done)
theorem VR.plain {g:Gh} {x:AV} {v:Value} (h:VR g x v):VR g x.plain v:=by
 induction h with
 |d h=>simpa [AV.plain] using VR.d h
 |AZ=>exact .d (.nil (Bu _) (fun _=>rfl))
 |own h _ _=>exact .d h
 |clip h=>exact .d h
 |@agg cs vs hl hc _ ih=>
  refine .agg (by rw [QF];exact hl) (fun c hcm=>?_) (fun i c v hci hvi=>?_)
  · obtain ⟨i,hi,rfl⟩:=EB hcm
    have:=Ml cs i
    rw [BJ hi] at this
    cases hcs:cs[i]? with
    |none=>rw [hcs] at this;cases this
    |some c'=>rw [hcs] at this;simp only [Bs,AJ] at this;rw [this];exact ZO (hc c' (AT hcs))
  · rw [Ml] at hci
    cases hcs:cs[i]? with
    |none=>rw [hcs] at hci;cases hci
    |some c'=>rw [hcs] at hci;simp only [Bs,AJ] at hci;rw [← hci];exact ih i c' v hcs hvi
 |gp h=>simpa [AV.plain] using VR.gp h
 |ep hi hr=>simpa [AV.plain] using VR.ep hi hr
 |Es=>exact .d .Es
 |Hy=>simpa [AV.plain] using VR.Hy
 |ms h hr hn hm=>simpa [AV.plain] using VR.ms h hr hn hm
 |mv h hr hn hm ho=>simpa [AV.plain] using VR.mv h hr hn hm ho
 |bp h k=>simpa [AV.plain] using VR.bp h k
 |fn hl hl' h h' _ _=>simpa [AV.plain] using VR.fn hl hl' h h'
 |@tup cs vs hl _ ih=>
  refine .tup (by rw [QF];exact hl) (fun i c v hci hvi=>?_)
  rw [Ml] at hci
  cases hcs:cs[i]? with
  |none=>rw [hcs] at hci;cases hci
  |some c'=>rw [hcs] at hci;simp only [Bs,AJ] at hci;rw [← hci];exact ih i c' v hcs hvi
 |undef=>simpa [AV.plain] using VR.undef
theorem VRs.plain {g:Gh} {xs:List AV} {vs:List Value} (h:VRs g xs vs):VRs g (AV.DI xs) vs:=by
 induction h with
 |nil=>exact .nil
 |cons h _ ih=>exact .cons h.plain ih
theorem AL.plain {f:FuncId} {args:List AV} {Q:AV→AF→Prop} (h:AL P f (AV.DI args) σ Q):AL P f args σ Q:=
 fun base g Pr w0 w vs hr hv=>h base g Pr w0 w vs hr hv.plain
def lA (o:Option AV) (K:AV→AF→Prop) (σ:AF):Prop:=
 match o with
 |some v=>K v σ
 |none=>False
theorem dU (v:AV) (K:AV→AF→Prop) (σ:AF):lA (some v) K σ=K v σ:=rfl
theorem Run.A1 {cx:Cx} {KK:AV→AF→Prop} {k:List CI} {σ2:AF} (hg:Good cx) (hσ:σ2.le σ) (h:lA ((Ws F L σ cx.rs).map AV.plain) KK σ2):Run cx KK (.code .ret::k) F L σ:=by
 cases hr:Ws F L σ cx.rs with
 |none=>rw [hr] at h;exact h.elim
 |some v=>rw [hr] at h;exact Run.ret hg hr (fun _ _ h=>h.plain) hσ h
theorem Run.Fp {cx:Cx} {KK:AV→AF→Prop} {k:List CI} {σ2:AF} (hg:Good cx) (hσ:σ2.le σ) (h:lA (Ws F L σ cx.rs) KK σ2):Run cx KK (.code .ret::k) F L σ:=by
 cases hr:Ws F L σ cx.rs with
 |none=>rw [hr] at h;exact h.elim
 |some v=>rw [hr] at h;exact Run.ret hg hr (fun _ _ h=>h) hσ h
theorem AM (σ:AF) (i j:Nat) (cs:List AV):(σ.AO i cs).blk j=if j=i then some cs else σ.blk j:=rfl
theorem FU (σ:AF) (i:Nat) (cs ds:List AV):(σ.AO i cs).AO i ds=σ.AO i ds:=by
 unfold AF.AO
 congr 1
 funext j
 by_cases h:j=i<;>simp [h]
theorem HR {σ:AF} {i:Nat} {cs:List AV} (h:σ.blk i=some cs):σ.AO i cs=σ:=by
 unfold AF.AO
 cases σ
 congr 1
 funext j
 split
 · rename_i e;subst e;exact h.symm
 · rfl
theorem Pm (σ:AF) (t i:Nat):(σ.Fu t).blk i=σ.blk i:=rfl
theorem Yl (σ:AF) (t i:Nat):(σ.Ed t).blk i=σ.blk i:=rfl
theorem AF.le_trans {a b c:AF} (h:a.le b) (k:b.le c):a.le c:=⟨fun i cs x=>k.blk i cs (h.blk i cs x),fun t x=>k.tok t (h.tok t x),h.gt.trans k.gt,fun i x hx=>k.bt i x (h.bt i x hx)⟩
theorem Bl {σ:AF} {i:Nat} {cs:List AV} (h:σ.blk i=none):σ.le (σ.AO i cs):=
 ⟨fun j ds hj=>by
   have:j≠i:=fun e=>by rw [e,h] at hj;cases hj
   rw [AM,if_neg this];exact hj,fun _ h=>h,rfl,fun _ _ h=>h⟩
structure Dh (σ:AF) (e s:Nat) (rows:List (List DV)) (v:AV) (σ':AF):Prop where
 app:∃σ1,NM σ' e s v=some (rows,σ1)∧σ.le σ1
 le:σ.le σ'
 plain:v.plain= .d (.sl rows)
 len:NU v=some (.d (.int .i64 rows.length))
 cell:v.BT=true
 BY:v.BY=true
 BO:∀k,v.BO k=false
 dv:v.dv=some (.sl rows)
 cells:v.cells=[v]
theorem Dh.nil (σ:AF) (e s:Nat):Dh σ e s [] .AZ σ:=
 ⟨⟨σ,rfl,AF.le_refl σ⟩,AF.le_refl σ,rfl,rfl,rfl,rfl,fun _=>rfl,rfl,rfl⟩
theorem Dh.own {σ σ1 σ':AF} {e s t:Nat} {rows:List (List DV)} (hle:σ.le σ1) (hle':σ.le σ') (ht:σ'.tok t=false):Dh σ e s rows (.own t e s rows) (σ1.Fu t):=by
 have hnt:σ.tok t=false:=by
  cases h:σ.tok t with
  |false=>rfl
  |true=>rw [hle'.tok t h] at ht;cases ht
 refine ⟨⟨(σ1.Fu t).Ed t,by simp [NM,AF.Fu],⟨fun i cs h=>hle.blk i cs h,fun t' h=>?_,hle.gt,hle.bt⟩⟩,⟨fun i cs h=>hle.blk i cs h,fun t' h=>?_,hle.gt,hle.bt⟩,rfl,rfl,rfl,rfl,fun _=>rfl,rfl,rfl⟩
 · have hne:t'≠t:=fun e=>by rw [e,hnt] at h;cases h
   simp [AF.Ed,AF.Fu,hne,hle.tok t' h]
 · have hne:t'≠t:=fun e=>by rw [e,hnt] at h;cases h
   simp [AF.Fu,hne,hle.tok t' h]
theorem EY.own {σ0:AF} {d:Option Nat} {e size bytes:Nat} {s x:AV} {rows srows:List (List DV)} (ho:Dh σ0 e size rows s σ) (h2:x.rows=some srows)
 (h3:∀r∈srows,r.length=size) (h4:rows.length+srows.length≤1000000000) (hb:bytes≤10000)
 (h:∀v σ',Dh σ0 e size (rows++srows) v σ'→(∀i,σ'.blk i=σ.blk i)→K (Ar d v F) L σ'):EY e size bytes s x d K F L σ:=by
 obtain ⟨σ1,ha,hl⟩:=ho.app
 refine EY.mk ha h2 h3 (by simp only [maxLen];omega) ?_ (fun t ht=>h _ _ (Dh.own hl ho.le ht) (fun i=>?_))
 · calc (rows.length+srows.length) * bytes≤1000000000 * 10000:=Le h4 hb
    _≤140737488355328:=by decide
 · rw [Pm]
   unfold NM at ha
   split at ha
   · cases ha;rfl
   · split at ha
     · cases ha;rfl
     · cases ha
   · cases ha
variable {cx:Cx} {KK:AV→AF→Prop} {k:List CI}
theorem Run.facts {p:Prop} (hp:∀base g lam Pr a w0 w,B9 base g lam Pr cx.N F L σ a w0 w→p) (h:p→Run cx KK k F L σ):Run cx KK k F L σ:=
 fun items base g lam Pr a w0 w b cs hi hf hb hk=>h (hp base g lam Pr a w0 w hf) items base g lam Pr a w0 w b cs hi hf hb hk
def AV.FY:AV→Prop
 | .d (.sl rows)=>rows.length≤9223372036854775807
 | .d (.str s)=>s.length≤9223372036854775807
 | .d (.int k n)=>k.min≤n∧n≤k.max
 | .own _ _ _ rows=>rows.length≤9223372036854775807
 | .clip rows=>rows.length≤9223372036854775807
 |_=>True
theorem VR.FY {g:Gh} {x:AV} {v:Value} (h:VR g x v):x.FY:=by
 cases h with
 |d h=>
  cases h with
  |int h=>exact h
  |bool=>trivial
  |str h=>exact h
  |nil=>simp [AV.FY]
  |sl hc hm _ _ _=>exact BS hc hm
  |ptr=>trivial
  |Es=>trivial
 |own h _ _=>obtain ⟨_,_,_,h2⟩:=h.J6;exact h2
 |clip h=>obtain ⟨_,_,_,h2⟩:=h.J6;exact h2
 |_=>trivial
theorem SV.FY {g:Gh} {lam:Nat→Option Nat} {x:AV} {v:Value} (h:SV g lam x v):x.FY:=by
 cases x<;>first|exact VR.FY h|trivial
theorem Run.slot (s:Nat) (h:(F s).FY→Run cx KK k F L σ):Run cx KK k F L σ:=
 Run.facts (fun _ _ _ _ _ _ _ hf=>(hf.tm s).FY) h
theorem Run.cell (j o:Nat) {cs:List AV} {c:AV} (hL:L j=some cs) (hc:cs[o]?=some c) (h:c.FY→Run cx KK k F L σ):Run cx KK k F L σ:=
 Run.facts (fun _ _ _ _ _ _ _ hf=>by
  obtain ⟨_,b,vs,ty,_,_,_,hr⟩:=hf.loc j cs hL
  obtain ⟨v,_,hv⟩:=hr.at o c hc
  exact hv.FY) h
end Go.Ab
