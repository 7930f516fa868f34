/- Compact code, its runs at the abstract level, and contracts out of runs. Equations that run compact code at the abstract level. Conditions: none. -/
import Derived.Scope
import Derived.Test.YtifplkldbbcldaaGreatDoorXAb10d
set_option linter.unusedSimpArgs false
set_option linter.unusedVariables false
set_option maxRecDepth 4000
set_option maxHeartbeats 8000000
open List renaming range→Io,all_cons→Bv,getD_eq_getElem?_getD→Up,getElem?_eq_some_iff→Aa,mem_cons→CT,all_nil→L8,replicate→Aj,getElem_of_mem→Ch,getElem?_eq_getElem→Az,mem_of_getElem?→Ae
open Option.some renaming injEq→AR
open Prod.mk renaming injEq→B7
open Option renaming getD_some→Qy,map_eq_some_iff→AK,bind_eq_some_iff→AD,bind_eq_bind→AU,map_some→C9
open Go renaming undef→Ck
open Bool renaming and_eq_true→AN,false_eq_true→AW
open Nat renaming le_refl→A9,mul_le_mul→Oh,zero_le→CX,le_trans→BD
open Array renaming replicate→Ej,getD_eq_getD_getElem?→Cj
namespace Go.Ab
open Go.RowKit
inductive C where
 |skip
 |reg (ops:List Q) (live:List Nat)
 |FZ (t:QT) (live:List Nat)
 |seq (x y:C)
 |cond (x:X) (t e:C)
 |block (id:Nat) (c:C)
 |loop (c:C)
 |exit (id:Nat)
 |ret
 |scope (c:C)
 |bad
inductive CI where
 |code (c:C)
 |blk (id:Nat)
 |scp
 |again (c:C)
def j8 (P:Program) (N:Nat) (esc:List Nat) (pf:List FuncId) (live:List Nat) (pt:PT) (ops:Array Oper):Option C:=
 match pt with
 | .done=>(mX P N esc pf (Io ops.size) ops).map fun q=>.reg q live
 |pt=>(YW P N esc pf pt ops).map fun t=>match lin t with
  |some q=>.reg q live
  |none=>.FZ t live
def HD (P:Program) (N:Nat) (esc:List Nat) (pf:List FuncId):Code→List (List Nat×PT)→Option (C×List (List Nat×PT))
 | .skip,ct=>some (.skip,ct)
 | .region _ ops false,(live,_)::ct=>some (((My P N esc ops (Io ops.size)).map fun q=>C.reg q live).getD .bad,ct)
 | .region _ ops true,(live,pt)::ct=>some ((j8 P N esc pf live pt ops).getD .bad,ct)
 | .seq x y,ct=>(HD P N esc pf x ct).bind fun r=>(HD P N esc pf y r.2).map fun r'=>(.seq r.1 r'.1,r'.2)
 | .cond c t e,ct=>(xo c).bind fun c'=>(HD P N esc pf t ct).bind fun r=>(HD P N esc pf e r.2).map fun r'=>(.cond c' r.1 r'.1,r'.2)
 | .block id c,ct=>(HD P N esc pf c ct).map fun r=>(.block id r.1,r.2)
 | .loop c,ct=>(HD P N esc pf c ct).map fun r=>(.loop r.1,r.2)
 | .exit id,ct=>some (.exit id,ct)
 | .ret,ct=>some (.ret,ct)
 | .scope c,ct=>(HD P N esc pf c ct).map fun r=>(.scope r.1,r.2)
 | .label _,ct=>some (.skip,ct)
 |_,_=>none
inductive RV where
 |t (n:Nat)
 |c (n:Nat) (k:Option Nat)
def Wf (P:Program):List ResultVar→Option (List RV)
 |[]=>some []
 | .tmp n::l=>do some (.t n::(← Wf P l))
 | .cell n t::l=>do
  let k ← ldN P t
  some (.c n k::(← Wf P l))
def rvA (F:Fm) (L:Lm) (σ:AM):RV→Option AV
 | .t n=>some (F n)
 | .c n k=>ldA L σ (F n) k
def lZ (F:Fm) (L:Lm) (σ:AM):List RV→Option (List AV)
 |[]=>some []
 |r::l=>do some ((← rvA F L σ r)::(← lZ F L σ l))
def eM (F:Fm) (L:Lm) (σ:AM) (rs:List RV):Option AV:=
 (lZ F L σ rs).bind fun vs=>if vs.all AV.Ay then (match vs with|[v]=>some v|vs=>some (.tup vs)) else none
def WE (ks:List Nat) (F:Fm):Fm:=fun s=>if s∈ks then F s else .undef
def SZ (ks:List Nat) (L:Lm):Lm:=fun s=>if s∈ks then L s else none
variable {P:Program} {base N:Nat} {g g':Gh} {Pr:Nat→Prop} {σ σ':AM} {w0 w w':World} {lam:Nat→Option Nat} {F F':Fm} {L L':Lm} {a:Act}
theorem B1.mL (h:B1 base g lam Pr N F L σ a w0 w) (hF:∀s,F' s=F s∨F' s= .undef) (hL:∀k cs,L' k=some cs→L k=some cs) (hσ:σ'.le σ):B1 base g lam Pr N F' L' σ' a w0 w:=by
 refine ⟨fun s=>?_,h.sz,h.df,fun k cs hk=>h.loc k cs (hL k cs hk),h.inj,h.npr,h.rel.less hσ⟩
 rcases hF s with e|e
 · rw [e];exact h.tm s
 · rw [e];exact VR.undef
theorem B1.kept (h:B1 base g lam Pr N F L σ a w0 w) (ks:List Nat):B1 base g lam Pr N (WE ks F) (SZ ks L) σ a w0 w:=
 h.mL (fun s=>by simp only [WE];split<;>simp) (fun k cs hk=>by simp only [SZ] at hk;split at hk<;>simp_all) (AM.le_refl σ)
structure Cx where
 P:Program
 f:FuncId
 fn:Func
 N:Nat
 esc:List Nat
 pf:List FuncId
 rs:List RV
def RC (cx:Cx):C→Code→Prop
 | .skip,k=>k= .skip∨∃l,k= .label l
 | .scope c,k=>∃p,k= .scope p∧RC cx c p
 | .reg ops _,k=>∃id arr,(k= .region id arr false∧My cx.P cx.N cx.esc arr (Io arr.size)=some ops)∨(k= .region id arr true∧∃order,mX cx.P cx.N cx.esc cx.pf order arr=some ops)∨(k= .region id arr true∧∃pt t,YW cx.P cx.N cx.esc cx.pf pt arr=some t∧lin t=some ops)
 | .FZ t _,k=>∃id arr pt,k= .region id arr true∧YW cx.P cx.N cx.esc cx.pf pt arr=some t
 | .seq x y,k=>∃p q,k= .seq p q∧RC cx x p∧RC cx y q
 | .cond x t e,k=>∃c p q,k= .cond c p q∧xo c=some x∧RC cx t p∧RC cx e q
 | .block id c,k=>∃p,k= .block id p∧RC cx c p
 | .loop c,k=>∃p,k= .loop p∧RC cx c p
 | .exit id,k=>k= .exit id
 | .ret,k=>k= .ret
 | .bad,_=>True
theorem AZ (cx:Cx):∀(k:Code) (ct:List (List Nat×PT)) (c:C) (ct':List (List Nat×PT)),HD cx.P cx.N cx.esc cx.pf k ct=some (c,ct')→RC cx c k
 | .skip,ct,c,ct',h=>by simp only [HD,AR,B7] at h;rw [← h.1];exact .inl rfl
 | .region id ops dr,ct,c,ct',h=>by
  cases ct with
  |nil=>cases dr<;>simp only [HD] at h<;>cases h
  |cons lo ct=>
   obtain ⟨live,order⟩:=lo
   cases dr
   · simp only [HD,AR,B7] at h
     obtain ⟨rfl,_⟩:=h
     cases hq:My cx.P cx.N cx.esc ops (Io ops.size) with
     |none=>exact trivial
     |some qs=>exact ⟨id,ops,.inl ⟨rfl,hq⟩⟩
   · simp only [HD,AR,B7] at h
     obtain ⟨rfl,_⟩:=h
     cases hq:j8 cx.P cx.N cx.esc cx.pf live order ops with
     |none=>exact trivial
     |some c'=>
     simp only [Qy]
     unfold j8 at hq
     split at hq
     · simp only [AK] at hq
       obtain ⟨qs,hq',rfl⟩:=hq
       exact ⟨id,ops,.inr (.inl ⟨rfl,_,hq'⟩)⟩
     · simp only [AK] at hq
       obtain ⟨t,ht,rfl⟩:=hq
       cases hl:lin t with
       |some q=>exact ⟨id,ops,.inr (.inr ⟨rfl,_,t,ht,hl⟩)⟩
       |none=>exact ⟨id,ops,_,rfl,ht⟩
 | .seq x y,ct,c,ct',h=>by
  simp only [HD,AD,AK,B7] at h
  obtain ⟨⟨x',c1⟩,hx,⟨y',c2⟩,hy,rfl,_⟩:=h
  exact ⟨x,y,rfl,AZ cx x _ _ _ hx,AZ cx y _ _ _ hy⟩
 | .cond c t e,ct,c2,ct',h=>by
  simp only [HD,AD,AK,B7] at h
  obtain ⟨x,hx,⟨t',c1⟩,ht,⟨e',c3⟩,he,rfl,_⟩:=h
  exact ⟨c,t,e,rfl,hx,AZ cx t _ _ _ ht,AZ cx e _ _ _ he⟩
 | .block id p,ct,c,ct',h=>by
  simp only [HD,AK,B7] at h
  obtain ⟨⟨c',c1⟩,hc,rfl,_⟩:=h
  exact ⟨p,rfl,AZ cx p _ _ _ hc⟩
 | .loop p,ct,c,ct',h=>by
  simp only [HD,AK,B7] at h
  obtain ⟨⟨c',c1⟩,hc,rfl,_⟩:=h
  exact ⟨p,rfl,AZ cx p _ _ _ hc⟩
 | .exit id,ct,c,ct',h=>by simp only [HD,AR,B7] at h;rw [← h.1];rfl
 | .ret,ct,c,ct',h=>by simp only [HD,AR,B7] at h;rw [← h.1];rfl
 | .rangeFunc ..,ct,c,ct',h=>by simp only [HD] at h;cases h
 | .scope p,ct,c,ct',h=>by
  simp only [HD,AK,B7] at h
  obtain ⟨⟨c',c1⟩,hc,rfl,_⟩:=h
  exact ⟨p,rfl,AZ cx p _ _ _ hc⟩
 | .label l,ct,c,ct',h=>by simp only [HD,AR,B7] at h;rw [← h.1];exact .inr ⟨l,rfl⟩
 | .goto _,ct,c,ct',h=>by simp only [HD] at h;cases h
 | .refuse _,ct,c,ct',h=>by simp only [HD] at h;cases h
def RI (cx:Cx):CI→Item→Prop
 | .code c,y=>∃k,y= .code k∧RC cx c k
 | .blk id,y=>y= .inBlock id
 | .scp,y=>∃k,y= .inScope k
 | .again c,y=>∃k,y= .inLoop k∧RC cx c k
inductive RIs (cx:Cx):List CI→List Item→Prop
 |nil:RIs cx [] []
 |cons {x:CI} {y:Item} {xs:List CI} {ys:List Item} (h:RI cx x y) (hs:RIs cx xs ys):RIs cx (x::xs) (y::ys)
def Good (cx:Cx):Prop:=cx.P.funcs[cx.f]?=some cx.fn∧Wf cx.P cx.fn.results.toList=some cx.rs
def Run (cx:Cx) (K:AV→AM→Prop) (todo:List CI) (F:Fm) (L:Lm) (σ:AM):Prop:=
 ∀(items:List Item) (base:Nat) (g:Gh) (lam:Nat→Option Nat) (Pr:Nat→Prop) (a:Act) (w0 w:World) (b:Frame) (cs:List Frame),
  RIs cx todo items→B1 base g lam Pr cx.N F L σ a w0 w→b.fn=cx.f→b.kind= .normal→
  ∃v w' fr,Steps cx.P (lone (b.at a items) cs w) (lone fr cs w')∧fr.fn=cx.f∧fr.leaving cx.P w' (.returned v)∧
   ∃av g' σ',VR g' av v∧Rel base g' Pr σ' w0 w'∧g.le g'∧KP Pr w w'∧K av σ'
variable {cx:Cx} {K:AV→AM→Prop} {k:List CI}
theorem Run.mL (hF:∀s,F' s=F s∨F' s= .undef) (hL:∀k cs,L' k=some cs→L k=some cs) (hσ:σ'.le σ) (h:Run cx K k F' L' σ'):Run cx K k F L σ:=
 fun items base g lam Pr a w0 w b cs hi hf hb hk=>h items base g lam Pr a w0 w b cs hi (hf.mL hF hL hσ) hb hk
theorem Run.Mb {k':List CI}
 (hs:∀items,RIs cx k items→∃items',RIs cx k' items'∧∀(b:Frame) (a:Act) (cs:List Frame) (w:World),step cx.P (lone (b.at a items) cs w)= .next (lone (b.at a items') cs w))
 (h:Run cx K k' F L σ):Run cx K k F L σ:=by
 intro items base g lam Pr a w0 w b cs hi hf hb hk
 obtain ⟨items',hi',hst⟩:=hs items hi
 obtain ⟨v,w',fr,hss,rest⟩:=h items' base g lam Pr a w0 w b cs hi' hf hb hk
 exact ⟨v,w',fr,.head (hst b a cs w) hss,rest⟩
theorem RIs.code {c:C} {items:List Item} (h:RIs cx (.code c::k) items):∃p ys,items= .code p::ys∧RC cx c p∧RIs cx k ys:=by
 cases h with
 |cons hy hys=>obtain ⟨p,rfl,hp⟩:=hy;exact ⟨p,_,rfl,hp,hys⟩
theorem RIs.Ma {c:C} {p:Code} {ys:List Item} (hc:RC cx c p) (h:RIs cx k ys):RIs cx (.code c::k) (.code p::ys):= .cons ⟨p,rfl,hc⟩ h
theorem Run.skip (h:Run cx K k F L σ):Run cx K (.code .skip::k) F L σ:=
 h.Mb fun items hi=>by
  obtain ⟨p,ys,rfl,hp,hys⟩:=hi.code
  rcases hp with rfl|⟨l,rfl⟩
  · exact ⟨ys,hys,fun b a cs w=>step_skip⟩
  · exact ⟨ys,hys,fun b a cs w=>step_label⟩
theorem Run.scope {c:C} (h:Run cx K (.code c::.scp::k) F L σ):Run cx K (.code (.scope c)::k) F L σ:=
 h.Mb fun items hi=>by
  obtain ⟨p,ys,rfl,⟨p1,rfl,h1⟩,hys⟩:=hi.code
  exact ⟨_,.Ma h1 (.cons ⟨p1,rfl⟩ hys),fun b a cs w=>step_scope⟩
theorem Run.scp (h:Run cx K k F L σ):Run cx K (.scp::k) F L σ:=
 h.Mb fun items hi=>by
  cases hi with
  |cons hy hys=>obtain ⟨p,rfl⟩:=hy;exact ⟨_,hys,fun b a cs w=>step_inScope⟩
theorem Run.seq {x y:C} (h:Run cx K (.code x::.code y::k) F L σ):Run cx K (.code (.seq x y)::k) F L σ:=
 h.Mb fun items hi=>by
  obtain ⟨p,ys,rfl,⟨p1,p2,rfl,h1,h2⟩,hys⟩:=hi.code
  exact ⟨_,.Ma h1 (.Ma h2 hys),fun b a cs w=>step_seq⟩
theorem Run.block {id:Nat} {c:C} (h:Run cx K (.code c::.blk id::k) F L σ):Run cx K (.code (.block id c)::k) F L σ:=
 h.Mb fun items hi=>by
  obtain ⟨p,ys,rfl,⟨p1,rfl,h1⟩,hys⟩:=hi.code
  exact ⟨_,.Ma h1 (.cons rfl hys),fun b a cs w=>step_block⟩
theorem Run.blk {id:Nat} (h:Run cx K k F L σ):Run cx K (.blk id::k) F L σ:=
 h.Mb fun items hi=>by
  cases hi with
  |cons hy hys=>cases hy;exact ⟨_,hys,fun b a cs w=>step_inBlock⟩
theorem Run.loop {c:C} (h:Run cx K (.code c::.again c::k) F L σ):Run cx K (.code (.loop c)::k) F L σ:=
 h.Mb fun items hi=>by
  obtain ⟨p,ys,rfl,⟨p1,rfl,h1⟩,hys⟩:=hi.code
  exact ⟨_,.Ma h1 (.cons ⟨p1,rfl,h1⟩ hys),fun b a cs w=>step_loop⟩
theorem Run.again {c:C} (h:Run cx K (.code c::.again c::k) F L σ):Run cx K (.again c::k) F L σ:=
 h.Mb fun items hi=>by
  cases hi with
  |cons hy hys=>obtain ⟨p1,rfl,h1⟩:=hy;exact ⟨_,.Ma h1 (.cons ⟨p1,rfl,h1⟩ hys),fun b a cs w=>step_inLoop⟩
def VL (id:Nat):List CI→Option (List CI)
 | .blk id'::k=>if id'=id then some k else VL id k
 |_::k=>VL id k
 |[]=>none
theorem LB {id:Nat}:∀(k:List CI) (items:List Item) (k':List CI),RIs cx k items→VL id k=some k'→∃items',exitTo id items=some items'∧RIs cx k' items'
 |[],_,_,_,h=>by cases h
 |x::k,items,k',hi,h=>by
  cases hi with
  |@cons _ y _ ys hy hys=>
   cases x with
   |code c=>
    obtain ⟨p,rfl,_⟩:=hy
    obtain ⟨i',h1,h2⟩:=LB k ys k' hys (by simpa [VL] using h)
    exact ⟨i',by simpa [exitTo] using h1,h2⟩
   |again c=>
    obtain ⟨p,rfl,_⟩:=hy
    obtain ⟨i',h1,h2⟩:=LB k ys k' hys (by simpa [VL] using h)
    exact ⟨i',by simpa [exitTo] using h1,h2⟩
   |scp=>
    obtain ⟨p,rfl⟩:=hy
    obtain ⟨i',h1,h2⟩:=LB k ys k' hys (by simpa [VL] using h)
    exact ⟨i',by simpa [exitTo] using h1,h2⟩
   |blk id'=>
    cases hy
    simp only [VL] at h
    split at h
    · rename_i e
      cases h
      exact ⟨ys,by simp [exitTo,e],hys⟩
    · rename_i e
      obtain ⟨i',h1,h2⟩:=LB k ys k' hys h
      exact ⟨i',by simpa [exitTo,e] using h1,h2⟩
theorem Run.exit {id:Nat} {k':List CI} (he:VL id k=some k') (h:Run cx K k' F L σ):Run cx K (.code (.exit id)::k) F L σ:=
 h.Mb fun items hi=>by
  obtain ⟨p,ys,rfl,hp,hys⟩:=hi.code
  cases hp
  obtain ⟨i',h1,h2⟩:=LB k ys k' hys he
  exact ⟨i',h2,fun b a cs w=>step_exit h1⟩
theorem Run.cond {x:X} {t e:C} {b:Bool} (hx:xv F x= .d (.bool b)) (ht:b=true→Run cx K (.code t::k) F L σ) (he:b=false→Run cx K (.code e::k) F L σ):
 Run cx K (.code (.cond x t e)::k) F L σ:=by
 intro items base g lam Pr a w0 w fb cs hi hf hb hk
 obtain ⟨p,ys,rfl,⟨c,p1,p2,rfl,hc,h1,h2⟩,hys⟩:=hi.code
 have hv:=Ai hc hf
 rw [hx] at hv
 have hev:a.eval c= .bool b:=by generalize a.eval c=vc at hv;cases hv with|d hh=>cases hh;rfl
 cases b with
 |true=>
  obtain ⟨v,w',fr,hs,rest⟩:=ht rfl _ base g lam Pr a w0 w fb cs (.Ma h1 hys) hf hb hk
  exact ⟨v,w',fr,.head (step_cond hev) hs,rest⟩
 |false=>
  obtain ⟨v,w',fr,hs,rest⟩:=he rfl _ base g lam Pr a w0 w fb cs (.Ma h2 hys) hf hb hk
  exact ⟨v,w',fr,.head (step_cond hev) hs,rest⟩
def oP (cx:Cx) (K:AV→AM→Prop) (k:List CI) (live:List Nat):CV:=fun F L σ=>Run cx K k (WE live F) (SZ live L) σ
theorem Run.reg {ops:List Q} {live:List Nat} (hm:cx.P.follows .mixedOrders=true) (h:BN cx.P (oP cx K k live) ops F L σ):Run cx K (.code (.reg ops live)::k) F L σ:=by
 intro items base g lam Pr a w0 w b cs hi hf hb hk
 obtain ⟨p,ys,rfl,⟨id,arr,hp⟩,hys⟩:=hi.code
 have hw:p.wp cx.P (fun e a' w'=>e= .normal∧FF base Pr cx.N w0 g w (oP cx K k live) a' w') a w:=by
  rcases hp with ⟨rfl,hc⟩|⟨rfl,order,hc⟩|⟨rfl,pt,t,hc,hl⟩
  · exact wp_region (Zm cx.P arr cx.N cx.esc (oP cx K k live) _ _ base g lam Pr F L σ a w0 w hc h hf (fun _ _ h=>⟨rfl,h⟩))
  · exact kE hm hc h hf
  · exact Wi hm hc (uC t ops F L σ hl h) hf
 obtain ⟨e,a',w',⟨he,g',lam',F',L',σ',hle,hkp,hf',hK⟩,harr⟩:=hw b ys cs
 subst he
 obtain ⟨v,w2,fr,hs,hfn,hl,av,g2,σ2,hvr,hrel,hle2,hkp2,hk2⟩:=hK ys base g' lam' Pr a' w0 w' b cs hys (hf'.kept live) hb hk
 exact ⟨v,w2,fr,Steps.trans harr hs,hfn,hl,av,g2,σ2,hvr,hrel,Gh.le_trans hle hle2,hkp.trans hkp2,hk2⟩
theorem Run.FZ {t:QT} {live:List Nat} (hm:cx.P.follows .mixedOrders=true) (h:XT cx.P (oP cx K k live) false t F L σ):Run cx K (.code (.FZ t live)::k) F L σ:=by
 intro items base g lam Pr a w0 w b cs hi hf hb hk
 obtain ⟨p,ys,rfl,⟨id,arr,pt,rfl,hc⟩,hys⟩:=hi.code
 have hw:(Code.region id arr true).wp cx.P (fun e a' w'=>e= .normal∧FF base Pr cx.N w0 g w (oP cx K k live) a' w') a w:=Wi hm hc h hf
 obtain ⟨e,a',w',⟨he,g',lam',F',L',σ',hle,hkp,hf',hK⟩,harr⟩:=hw b ys cs
 subst he
 obtain ⟨v,w2,fr,hs,hfn,hl,av,g2,σ2,hvr,hrel,hle2,hkp2,hk2⟩:=hK ys base g' lam' Pr a' w0 w' b cs hys (hf'.kept live) hb hk
 exact ⟨v,w2,fr,Steps.trans harr hs,hfn,hl,av,g2,σ2,hvr,hrel,Gh.le_trans hle hle2,hkp.trans hkp2,hk2⟩
theorem W1 (hf:B1 base g lam Pr N F L σ a w0 w):∀(l:List ResultVar) (rs:List RV) (vs:List AV),Wf P l=some rs→lZ F L σ rs=some vs→vs.all AV.Ay=true→
 ∃xs:List Value,(l.mapM fun| .tmp t=>pure (a.tmps.getD t Ck)| .cell ad t=>do loadVar t (← asAddr (a.tmps.getD ad Ck)):Sem (List Value)).run P w= .ok xs w∧VRs g vs xs
 |[],rs,vs,hc,hv,_=>by
  simp only [Wf,AR] at hc;subst hc
  simp only [lZ,AR] at hv;subst hv
  exact ⟨[],by simp,.nil⟩
 | .tmp n::l,rs,vs,hc,hv,hn=>by
  simp only [Wf,AU,AD] at hc
  obtain ⟨rs',hrs,he⟩:=hc
  cases he
  simp only [lZ,AU,AD,rvA] at hv
  obtain ⟨v,hv1,vs',hvs,he⟩:=hv
  cases he;cases hv1
  simp only [Bv,AN] at hn
  obtain ⟨xs,hx,hr⟩:=W1 hf l rs' vs' hrs hvs hn.2
  exact ⟨a.tmps.getD n Ck::xs,by simp only [List.mapM_cons,Sem.run_bind,Sem.run_pure,Result.andThen_ok,hx],.cons ((hf.tm n).vr hn.1) hr⟩
 | .cell n t::l,rs,vs,hc,hv,hn=>by
  simp only [Wf,AU,AD] at hc
  obtain ⟨kk,hkk,rs',hrs,he⟩:=hc
  cases he
  simp only [lZ,AU,AD,rvA] at hv
  obtain ⟨v,hv1,vs',hvs,he⟩:=hv
  cases he
  simp only [Bv,AN] at hn
  obtain ⟨xs,hx,hr⟩:=W1 hf l rs' vs' hrs hvs hn.2
  obtain ⟨x,hld,hvr⟩:=gS (P:=P) hkk hf (hf.tm n) hv1
  have hasaddr:(do loadVar t (← asAddr (a.tmps.getD n Ck)):Sem Value).run P w= .ok x w:=by
   have hs:=hf.tm n
   generalize a.tmps.getD n Ck=pn at hs hld
   cases hp:pn<;>simp only [hp,Instr.loadAt,Instr.sureAddr] at hld<;>try (simp at hld;done)
   rename_i ad
   cases ad with
   |none=>simp at hld
   |some ad=>simpa [asAddr,Instr.sureAddr] using hld
  exact ⟨x::xs,by simp only [Sem.run_bind] at hasaddr;simp only [List.mapM_cons,Sem.run_bind,hasaddr,hx,Result.andThen_ok,Sem.run_pure],.cons hvr hr⟩
theorem cN {fn:Func} {rs:List RV} (hc:Wf P fn.results.toList=some rs) (hf:B1 base g lam Pr N F L σ a w0 w) {v:AV} (hv:eM F L σ rs=some v):
 ∃x,(results fn a.tmps).run P w= .ok x w∧VR g v x:=by
 simp only [eM,AD] at hv
 obtain ⟨vs,hvs,hv⟩:=hv
 split at hv
 case isFalse=>cases hv
 rename_i hn
 obtain ⟨xs,hx,hr⟩:=W1 (P:=P) hf _ rs vs hc hvs hn
 have hrun:(results fn a.tmps).run P w= .ok (if h:xs.toArray.size=1 then xs.toArray[0] else .tuple xs.toArray) w:=by
  unfold results
  rw [Array.mapM_eq_mapM_toList]
  simp only [Sem.run_bind,Sem.run_map,Sem.run_pure]
  exact congrArg (fun r:Result (List Value)=>(r.andThen fun a w'=>Result.ok a.toArray w').andThen fun (a:Array Value) w'=>Result.ok (if h:a.size=1 then a[0] else Value.tuple a) w') hx
 have hlen:=hr.length
 cases vs with
 |nil=>
  cases hv
  cases hr
  exact ⟨_,hrun,by simpa using VR.tup (g:=g) (cs:=[]) (vs:=[]) rfl (by simp)⟩
 |cons v1 vs=>
  cases vs with
  |nil=>
   cases hv
   cases hr with|cons h1 h2=>cases h2;exact ⟨_,hrun,by simpa using h1⟩
  |cons v2 vs=>
   cases hv
   refine ⟨_,hrun,?_⟩
   have hne:¬xs.toArray.size=1:=by simp at hlen ⊢;omega
   rw [dif_neg hne]
   exact .tup hr.length hr.idx
theorem Run.fin {σ2:AM} (hg:Good cx) {v v':AV} (hv:eM F L σ cx.rs=some v) (hw:∀g x,VR g v x→VR g v' x) (hσ:σ2.le σ) (hK:K v' σ2):Run cx K [] F L σ:=by
 intro items base g lam Pr a w0 w b cs hi hf hb hk
 cases hi
 obtain ⟨x,hx,hvr⟩:=cN hg.2 hf hv
 refine ⟨x,w,_,.one step_end,hb,⟨rfl,hf.df,hk,cx.fn,by show cx.P.funcs[b.fn]?=_;rw [hb];exact hg.1,hx⟩,v',g,σ2,hw g x hvr,?_,Gh.le_refl g,KP.refl Pr w,hK⟩
 exact (hf.rel.less hσ).grow (A9 _) (fun _ _ _=>rfl) (Below.refl _ _) (fun b hp=>⟨(hf.rel.pr b (.inl hp)).1,.inl (.inl hp)⟩)
theorem Run.ret {σ2:AM} (hg:Good cx) {v v':AV} (hv:eM F L σ cx.rs=some v) (hw:∀g x,VR g v x→VR g v' x) (hσ:σ2.le σ) (hK:K v' σ2):Run cx K (.code .ret::k) F L σ:=by
 intro items base g lam Pr a w0 w b cs hi hf hb hk
 obtain ⟨p,ys,rfl,hp,hys⟩:=hi.code
 cases hp
 obtain ⟨x,hx,hvr⟩:=cN hg.2 hf hv
 refine ⟨x,w,_,.one step_ret,hb,⟨rfl,hf.df,hk,cx.fn,by show cx.P.funcs[b.fn]?=_;rw [hb];exact hg.1,hx⟩,v',g,σ2,hw g x hvr,?_,Gh.le_refl g,KP.refl Pr w,hK⟩
 exact (hf.rel.less hσ).grow (A9 _) (fun _ _ _=>rfl) (Below.refl _ _) (fun b hp=>⟨(hf.rel.pr b (.inl hp)).1,.inl (.inl hp)⟩)
def At (args:List AV):Fm:=fun s=>args.getD s .undef
theorem AX {args:List AV} {c:C} {code:Code} (hg:Good cx) (hb:cx.fn.body=some code) (hN:cx.fn.ntmps=cx.N) (hl:args.length≤cx.N) (hc:RC cx c code)
 (h:Run cx K [.code c] (At args) (fun _=>none) σ):AP cx.P cx.f args σ K:=by
 intro base g Pr w0 w vs hrel hvs cs
 let b:Frame:= { (default:Frame) with fn:=cx.f,kind:= .normal}
 have henter:Frame.enter cx.P cx.f vs.toArray .normal=b.at { tmps:=vs.toArray++Ej (cx.fn.ntmps - vs.toArray.size) Ck,defers:=[]} [.code code]:=by
  simp [Frame.enter,Frame.at,hg.1,hb,b]
 have hvl:=hvs.length
 have hf:B1 base g (fun _=>none) Pr cx.N (At args) (fun _=>none) σ { tmps:=vs.toArray++Ej (cx.fn.ntmps - vs.toArray.size) Ck,defers:=[]} w0 w:=by
  refine ⟨fun s=>?_,by simp;omega,rfl,fun k cs hk=>(by cases hk),fun k k' b hk=>(by cases hk),fun k b hk=>(by cases hk),?_⟩
  · simp only [At,Up]
    cases hs:args[s]? with
    |none=>exact VR.undef
    |some av=>
     obtain ⟨v,hv,hr⟩:=hvs.at s av hs
     have hlt:=(Aa.1 hv).1
     have:(vs.toArray++Ej (cx.fn.ntmps - vs.toArray.size) Ck).getD s Ck=v:=by
      simp only [Cj]
      rw [Array.getElem?_append_left (by simpa using hlt)]
      simp [hv]
     show SV g _ av ((vs.toArray++Ej (cx.fn.ntmps - vs.toArray.size) Ck).getD s Ck)
     rw [this];exact SV.E7 hr
  · exact hrel.grow (A9 _) (fun _ _ _=>rfl) (Below.refl _ _) (fun b hp=>by
     rcases hp with hp|⟨k,hk⟩
     · exact ⟨(hrel.pr b hp).1,.inl hp⟩
     · cases hk)
 obtain ⟨v,w',fr,hs,hfn,hlv,av,g',σ',h1,h2,h3,h4,h5⟩:=h [.code code] base g _ Pr _ w0 w b cs (.Ma hc .nil) hf rfl rfl
 rw [← henter] at hs
 exact ⟨.returned v,w',fr,⟨v,av,g',σ',rfl,h1,h2,h3,h4,h5⟩,hs,hfn,hlv⟩
end Go.Ab
namespace Go.Ab
open Go.RowKit
variable {P:Program} {K:CV} {F:Fm} {L:Lm} {σ:AM} {r:List Q}
def E:Lm:=fun _=>none
def UJ (k:Nat) (o:Option (List AV)) (L:Lm):Lm:=fun s=>if s=k then o else L s
theorem IQ (d:Nat) (v:AV) (F:Fm) (s:Nat):put d v F s=if s=d then v else F s:=rfl
theorem vG (d:Nat) (cs:List AV) (L:Lm) (s:Nat):B8 d cs L s=if s=d then some cs else L s:=rfl
theorem ACT (s:Nat):E s=none:=rfl
theorem ACZ (s:Nat):U s= .undef:=rfl
theorem tK (F:Fm):WE [] F=U:=rfl
theorem qG (k:Nat) (ks:List Nat) (F:Fm):WE (k::ks) F=put k (F k) (WE ks F):=by
 funext s
 simp only [WE,put,CT]
 by_cases h:s=k
 · subst h;simp
 · simp [h]
theorem qF (L:Lm):SZ [] L=E:=rfl
theorem kZ (k:Nat) (ks:List Nat) (L:Lm):SZ (k::ks) L=UJ k (L k) (SZ ks L):=by
 funext s
 simp only [SZ,UJ,CT]
 by_cases h:s=k
 · subst h;simp
 · simp [h]
theorem lT (k:Nat) (cs:List AV) (L:Lm):UJ k (some cs) L=B8 k cs L:=rfl
theorem yR (k:Nat):UJ k none E=E:=by funext s;simp [UJ,E]
theorem lS (k j:Nat) (cs:List AV) (L:Lm):UJ k none (B8 j cs L)=if j=k then UJ k none L else B8 j cs (UJ k none L):=by
 funext s
 by_cases h:j=k
 · subst h
   simp only [if_true,UJ,B8]
   by_cases h2:s=j<;>simp [h2]
 · simp only [h,if_false,UJ,B8]
   by_cases h2:s=k
   · have h3:s≠j:=by omega
     rw [if_pos h2,if_neg h3,if_pos h2]
   · rw [if_neg h2]
     by_cases h3:s=j
     · rw [if_pos h3,if_pos h3]
     · rw [if_neg h3,if_neg h3,if_neg h2]
theorem rC (k:Nat) (cs ds:List AV) (L:Lm):B8 k cs (B8 k ds L)=B8 k cs L:=by
 funext s;simp only [B8];split<;>rfl
theorem AEA (F:Fm) (n:Nat):xv F (.t n)=F n:=rfl
theorem AD9 (F:Fm) (v:AV):xv F (.c v)=v:=rfl
theorem Av (a:AV):At [a]=put 0 a U:=by
 funext s;simp only [At,put,U];cases s<;>simp
theorem BP (a b:AV):At [a,b]=put 0 a (put 1 b U):=by
 funext s;simp only [At,put,U]
 match s with|0=>rfl|1=>rfl|n+2=>simp
theorem Hg (a b c:AV):At [a,b,c]=put 0 a (put 1 b (put 2 c U)):=by
 funext s;simp only [At,put,U]
 match s with|0=>rfl|1=>rfl|2=>rfl|n+3=>simp
theorem YA (a b c d:AV):At [a,b,c,d]=put 0 a (put 1 b (put 2 c (put 3 d U))):=by
 funext s;simp only [At,put,U]
 match s with|0=>rfl|1=>rfl|2=>rfl|3=>rfl|n+4=>simp
theorem yQ (k:Nat):DO k U=U:=by funext s;simp [DO,U,AV.BR]
theorem rB (k d:Nat) (v:AV) (F:Fm):DO k (put d v F)=put d (if v.BR k then .undef else v) (DO k F):=by
 funext s
 simp only [DO,put]
 by_cases h:s=d<;>simp [h]
theorem ABN (k:Nat) (x:DV):(AV.d x).BR k=false:=rfl
theorem qQ (k:Nat):AV.AY.BR k=false:=rfl
theorem uF (k t e s:Nat) (r:List (List DV)):(AV.own t e s r).BR k=false:=rfl
theorem qN (k:Nat) (r:List (List DV)):(AV.clip r).BR k=false:=rfl
theorem uE (k:Nat) (r:List AV):(AV.agg r).BR k=false:=rfl
theorem yB (k j o:Nat):(AV.lp j o).BR k=(j==k):=rfl
theorem yA (k j o:Nat):(AV.gp j o).BR k=false:=rfl
theorem x8 (k o:Nat) (r:List DV):(AV.ep r o).BR k=false:=rfl
theorem qP (k:Nat):AV.Et.BR k=false:=rfl
theorem yC (k i n s e:Nat):(AV.ms i n s e).BR k=false:=rfl
theorem yD (k:Nat) (i o n s e:Nat):(AV.mv i o n s e).BR k=false:=rfl
theorem xZ (k:Nat) (t e:Nat) (s:List UInt8):(AV.bp t e s).BR k=false:=rfl
theorem qO (k:Nat):AV.PJ.BR k=false:=rfl
theorem x9 (k:Nat) (f:FuncId) (x y:List AV):(AV.fn f x y).BR k=false:=rfl
theorem uG (k:Nat) (x:List AV):(AV.tup x).BR k=false:=rfl
theorem k9 (k:Nat):AV.undef.BR k=false:=rfl
theorem wT (x:DV):AV.cells (AV.d x)=[(AV.d x)]:=rfl
theorem j5:AV.cells AV.AY=[AV.AY]:=rfl
theorem pD (t e s:Nat) (r:List (List DV)):AV.cells (AV.own t e s r)=[(AV.own t e s r)]:=rfl
theorem j2 (r:List (List DV)):AV.cells (AV.clip r)=[(AV.clip r)]:=rfl
theorem pC (r:List AV):AV.cells (AV.agg r)=r:=rfl
theorem sQ (j o:Nat):AV.cells (AV.lp j o)=[(AV.lp j o)]:=rfl
theorem sP (j o:Nat):AV.cells (AV.gp j o)=[(AV.gp j o)]:=rfl
theorem sN (r:List DV) (o:Nat):AV.cells (AV.ep r o)=[(AV.ep r o)]:=rfl
theorem j4:AV.cells AV.Et=[AV.Et]:=rfl
theorem sR (i n s e:Nat):AV.cells (AV.ms i n s e)=[(AV.ms i n s e)]:=rfl
theorem sS (i o n s e:Nat):AV.cells (AV.mv i o n s e)=[AV.mv i o n s e]:=rfl
theorem sM (t e:Nat) (s:List UInt8):AV.cells (AV.bp t e s)=[AV.bp t e s]:=rfl
theorem j3:AV.cells AV.PJ=[AV.PJ]:=rfl
theorem sO (f:FuncId) (x y:List AV):AV.cells (AV.fn f x y)=[(AV.fn f x y)]:=rfl
theorem pE (x:List AV):AV.cells (AV.tup x)=[(AV.tup x)]:=rfl
theorem fR:AV.cells AV.undef=[AV.undef]:=rfl
theorem tH (x:DV):AV.CQ (AV.d x)=true:=rfl
theorem gK:AV.CQ AV.AY=true:=rfl
theorem kW (t e s:Nat) (r:List (List DV)):AV.CQ (AV.own t e s r)=true:=rfl
theorem gG (r:List (List DV)):AV.CQ (AV.clip r)=true:=rfl
theorem kV (r:List AV):AV.CQ (AV.agg r)=false:=rfl
theorem p9 (j o:Nat):AV.CQ (AV.lp j o)=false:=rfl
theorem pZ (j o:Nat):AV.CQ (AV.gp j o)=true:=rfl
theorem pX (r:List DV) (o:Nat):AV.CQ (AV.ep r o)=true:=rfl
theorem gJ:AV.CQ AV.Et=true:=rfl
theorem qA (i n s e:Nat):AV.CQ (AV.ms i n s e)=true:=rfl
theorem qB (i o n s e:Nat):AV.CQ (AV.mv i o n s e)=true:=rfl
theorem pW (t e:Nat) (s:List UInt8):AV.CQ (AV.bp t e s)=true:=rfl
theorem gI:AV.CQ AV.PJ=true:=rfl
theorem pY (f:FuncId) (x y:List AV):AV.CQ (AV.fn f x y)=true:=rfl
theorem kX (x:List AV):AV.CQ (AV.tup x)=false:=rfl
theorem dS:AV.CQ AV.undef=false:=rfl
theorem KU (x:DV):AV.Ay (AV.d x)=true:=rfl
theorem qW:AV.Ay AV.AY=true:=rfl
theorem uL (t e s:Nat) (r:List (List DV)):AV.Ay (AV.own t e s r)=true:=rfl
theorem qT (r:List (List DV)):AV.Ay (AV.clip r)=true:=rfl
theorem Fh (r:List AV):AV.Ay (AV.agg r)=true:=rfl
theorem yH (j o:Nat):AV.Ay (AV.lp j o)=false:=rfl
theorem JY (j o:Nat):AV.Ay (AV.gp j o)=true:=rfl
theorem yF (r:List DV) (o:Nat):AV.Ay (AV.ep r o)=true:=rfl
theorem qV:AV.Ay AV.Et=true:=rfl
theorem yI (i n s e:Nat):AV.Ay (AV.ms i n s e)=true:=rfl
theorem yJ (i o n s e:Nat):AV.Ay (AV.mv i o n s e)=true:=rfl
theorem yE (t e:Nat) (s:List UInt8):AV.Ay (AV.bp t e s)=true:=rfl
theorem qU:AV.Ay AV.PJ=true:=rfl
theorem yG (f:FuncId) (x y:List AV):AV.Ay (AV.fn f x y)=true:=rfl
theorem uM (x:List AV):AV.Ay (AV.tup x)=true:=rfl
theorem lE:AV.Ay AV.undef=true:=rfl
theorem AD1 (x:DV):AV.dv (AV.d x)=some x:=rfl
theorem w7:AV.dv AV.AY=some (.sl []):=rfl
theorem AA4 (t e s:Nat) (r:List (List DV)):AV.dv (AV.own t e s r)=some (.sl r):=rfl
theorem w4 (r:List (List DV)):AV.dv (AV.clip r)=some (.sl r):=rfl
theorem AA3 (r:List AV):AV.dv (AV.agg r)=none:=rfl
theorem AC5 (j o:Nat):AV.dv (AV.lp j o)=none:=rfl
theorem AC4 (j o:Nat):AV.dv (AV.gp j o)=none:=rfl
theorem AC2 (r:List DV) (o:Nat):AV.dv (AV.ep r o)=none:=rfl
theorem w6:AV.dv AV.Et=some .Et:=rfl
theorem AC7 (i o n s e:Nat):AV.dv (AV.mv i o n s e)=none:=rfl
theorem AC1 (t e:Nat) (s:List UInt8):AV.dv (AV.bp t e s)=none:=rfl
theorem w5:AV.dv AV.PJ=none:=rfl
theorem AC6 (i n s e:Nat):AV.dv (AV.ms i n s e)=none:=rfl
theorem AC3 (f:FuncId) (x y:List AV):AV.dv (AV.fn f x y)=none:=rfl
theorem AA5 (x:List AV):AV.dv (AV.tup x)=none:=rfl
theorem s9:AV.dv AV.undef=none:=rfl
theorem rF:AV.rows AV.AY=some []:=rfl
theorem vL (t e s:Nat) (r:List (List DV)):AV.rows (AV.own t e s r)=some r:=rfl
theorem rE (r:List (List DV)):AV.rows (AV.clip r)=some r:=rfl
theorem ABZ (r:List (List DV)):AV.rows (AV.d (.sl r))=some r:=rfl
theorem qK:T6 AV.AY=some (.d (.int .i64 0)):=rfl
theorem tU (t e s:Nat) (r:List (List DV)):T6 (AV.own t e s r)=some (.d (.int .i64 r.length)):=rfl
theorem qJ (r:List (List DV)):T6 (AV.clip r)=some (.d (.int .i64 r.length)):=rfl
theorem xQ (i n s e:Nat):T6 (AV.ms i n s e)=some (.d (.int .i64 n)):=rfl
theorem xR (i o n s e:Nat):T6 (AV.mv i o n s e)=some (.d (.int .i64 n)):=rfl
theorem ABI (r:List (List DV)):T6 (AV.d (.sl r))=some (.d (.int .i64 r.length)):=rfl
theorem ACN:BN P K [] F L σ=K F L σ:=rfl
theorem ACS (b:Bool) (q:Q) (t:QT):XT P K b (.one q t) F L σ=BN P (XT P K false t) [q] F L σ:=by cases b<;>rfl
theorem ACR (b:Bool) (q:Q) (t s:QT):XT P K b (.alt q t s) F L σ=(BN P (XT P K false t) [q] F L σ∧XT P K true s F L σ):=by cases b<;>rfl
theorem zT:XT P K false .done F L σ=K F L σ:=rfl
theorem zU:XT P K true .done F L σ=True:=rfl
theorem wI (v:AV) (d:Nat):XPv (some v) (some d) K F L σ=K (put d v F) L σ:=rfl
theorem ADW (d:Nat) (x:X):BN P K (⟨some d,.mv x,none⟩::r) F L σ=BN P K r (put d (xv F x) F) L σ:=rfl
theorem zO (d:Option Nat) (x y z:X):BN P K (⟨d,.pick x y z,none⟩::r) F L σ=XPv (hZ (xv F x) (xv F y) (xv F z)) d (BN P K r) F L σ:=rfl
theorem ACF (d:Option Nat) (x:X) (o:Nat):BN P K (⟨d,.fld x o,none⟩::r) F L σ=XPv (kG (xv F x) o) d (BN P K r) F L σ:=rfl
theorem ADU (d:Option Nat) (x:X) (n:Option Nat):BN P K (⟨d,.ld x n,none⟩::r) F L σ=XPv (ldA L σ (xv F x) n) d (BN P K r) F L σ:=rfl
theorem ADT (d:Option Nat) (x y:X) (n:Nat):BN P K (⟨d,.ix x y n,none⟩::r) F L σ=XPv (ixA (xv F x) (xv F y) n) d (BN P K r) F L σ:=rfl
theorem zQ (d:Option Nat) (x y:X):BN P K (⟨d,.Ob x y,none⟩::r) F L σ=XPv (Z1 (xv F x) (xv F y)) d (BN P K r) F L σ:=rfl
theorem ACH (d:Option Nat) (x:X):BN P K (⟨d,.len x,none⟩::r) F L σ=XPv (T6 (xv F x)) d (BN P K r) F L σ:=rfl
theorem zR (d:Option Nat) (x:X):BN P K (⟨d,.J3 x,none⟩::r) F L σ=XPv (cO (xv F x)) d (BN P K r) F L σ:=rfl
theorem ACA (d:Option Nat) (op:BinOp) (x y:X):BN P K (⟨d,.bin op x y,none⟩::r) F L σ=XPv (oZ op (xv F x) (xv F y)) d (BN P K r) F L σ:=rfl
theorem zI (d:Option Nat) (op:BinOp) (x y:X):BN P K (⟨d,.sJ op x y,none⟩::r) F L σ=XPv (bH op (xv F x) (xv F y)) d (BN P K r) F L σ:=rfl
theorem ADY (d:Option Nat) (op:UnOp) (x:X):BN P K (⟨d,.un op x,none⟩::r) F L σ=XPv (unA op (xv F x)) d (BN P K r) F L σ:=rfl
theorem zN (d:Option Nat) (k:IntKind) (x:X):BN P K (⟨d,.conv k x,none⟩::r) F L σ=XPv (bQ k (xv F x)) d (BN P K r) F L σ:=rfl
theorem ACB (d:Option Nat) (z:List AV) (ps:List (Nat×Nat×X)):BN P K (⟨d,.bld z ps,none⟩::r) F L σ=XPv ((Ia z F ps).map .agg) d (BN P K r) F L σ:=rfl
theorem ACD (d:Option Nat) (s n:Nat) (z:List AV) (ps:List (Nat×Nat×X)):BN P K (⟨d,.bsl s n z ps,none⟩::r) F L σ=XPv (((Ia z F ps).bind dvs).map fun l=>.d (.sl (chunk s n l))) d (BN P K r) F L σ:=rfl
theorem ACI (d:Option Nat) (f:FuncId) (x y:List X):BN P K (⟨d,.mkf f x y,none⟩::r) F L σ=XPv (if (xvs F x++xvs F y).all AV.Ay then some (.fn f (xvs F x) (xvs F y)) else none) d (BN P K r) F L σ:=rfl
theorem ACE (d:Option Nat) (x:X) (i:Nat):BN P K (⟨d,.ext x i,none⟩::r) F L σ=XPv (pJ (xv F x) i) d (BN P K r) F L σ:=rfl
theorem ACL (d:Option Nat) (x:X):BN P K (⟨d,.nck x,none⟩::r) F L σ=XPv (uI (xv F x)) d (BN P K r) F L σ:=rfl
theorem ADV (d:Option Nat) (b:Bool) (x y:X):BN P K (⟨d,.mm b x y,none⟩::r) F L σ=XPv (mmA b (xv F x) (xv F y)) d (BN P K r) F L σ:=rfl
theorem ACC (d:Nat) (x:X):BN P K (⟨some d,.box x false,none⟩::r) F L σ=(Ak (xv F x).cells=true∧BN P K r (put d (.lp d 0) (DO d F)) (B8 d (xv F x).cells L) σ):=rfl
theorem ADM (d:Nat) (z:List AV):BN P K (⟨some d,.al z false,none⟩::r) F L σ=(Ak z=true∧BN P K r (put d (.lp d 0) (DO d F)) (B8 d z L) σ):=rfl
theorem zJ (d:Nat) (x:X):BN P K (⟨some d,.box x true,none⟩::r) F L σ=(Ak (xv F x).cells=true∧∀i,σ.blk i=none→BN P K r (put d (.gp i 0) F) L (σ.AL i (xv F x).cells)):=rfl
theorem AB8 (d:Nat) (z:List AV):BN P K (⟨some d,.al z true,none⟩::r) F L σ=(Ak z=true∧∀i,σ.blk i=none→BN P K r (put d (.gp i 0) F) L (σ.AL i z)):=rfl
def AAM (K:CV) (F:Fm):Option (Lm×AM)→Prop
 |some (L',σ')=>K F L' σ'
 |none=>False
theorem wJ (F:Fm) (L':Lm) (σ':AM):AAM K F (some (L',σ'))=K F L' σ':=rfl
theorem ADX (x v:X) (n:Nat):BN P K (⟨none,.st x v n,none⟩::r) F L σ=(Ak (xv F v).cells=true∧(xv F v).cells.length=n∧AAM (BN P K r) F (stA L σ (xv F v).cells (xv F x))):=by
 show XSt _ _ _ _ _ _ _ _=_
 unfold XSt AAM
 simp only [true_and]
 cases stA L σ (xv F v).cells (xv F x)<;>rfl
theorem ADP (d:Option Nat) (o:O) (s:Nat) (want:Bool):BN P K (⟨d,o,some (s,want)⟩::r) F L σ=XG (gdV want (F s)) (BN P K (⟨d,o,none⟩::r) F L σ) (BN P K r (Au d (.tup []) F) L σ):=rfl
theorem ADS (d:Option Nat) (o:O) (s:Nat) (want:Bool) (h:gdV want (F s)=some true):BN P K (⟨d,o,some (s,want)⟩::r) F L σ=BN P K (⟨d,o,none⟩::r) F L σ:=by rw [ADP,h];rfl
theorem ADQ (d:Option Nat) (o:O) (s:Nat) (want:Bool) (h:gdV want (F s)=some false):BN P K (⟨d,o,some (s,want)⟩::r) F L σ=BN P K r (Au d (.tup []) F) L σ:=by rw [ADP,h];rfl
theorem AC8 (want b:Bool):gdV want (.d (.bool b))=some (b==want):=rfl
theorem AC9 (want:Bool):gdV want (.tup [])=some false:=rfl
theorem rD (d:Nat) (v:AV) (F:Fm):Au (some d) v F=put d v F:=rfl
theorem zM (d:Option Nat) (f:FuncId) (args:List X):BN P K (⟨d,.call f args,none⟩::r) F L σ=AH P f (xvs F args) d (BN P K r) F L σ:=rfl
theorem wH (d:Option Nat) (f:FuncId) (args:List X):BN P K (⟨d,.Wu f args,none⟩::r) F L σ=Xt P f (xvs F args) d (BN P K r) F L σ:=rfl
theorem AB9 (d:Option Nat) (e s b:Nat) (x y:X):BN P K (⟨d,.app e s b x y,none⟩::r) F L σ=Kf e s b (xv F x) (xv F y) d (BN P K r) F L σ:=rfl
def AAG (P:Program) (x:AV) (args:List AV) (dst:Option Nat) (K:CV) (F:Fm) (L:Lm) (σ:AM):Prop:=
 ∃f first caps,x= .fn f first caps∧Aw P f=true∧AH P f (first++args++caps) dst K F L σ
theorem wG (d:Option Nat) (x:X) (args:List X):BN P K (⟨d,.EY x args,none⟩::r) F L σ=AAG P (xv F x) (xvs F args) d (BN P K r) F L σ:=rfl
theorem ACK (d:Option Nat) (e s b:Nat) (z:List AV) (x y:X):BN P K (⟨d,.msl e s b z x y,none⟩::r) F L σ=r4 e s b z (xv F x) (xv F y) d (BN P K r) F L σ:=rfl
theorem zH (d:Option Nat) (e s b:Nat) (x y:X):BN P K (⟨d,.Xz e s b x y,none⟩::r) F L σ=Ri e s b (xv F x) (xv F y) d (BN P K r) F L σ:=rfl
theorem ACQ (d:Option Nat) (x y:X):BN P K (⟨d,.trn x y,none⟩::r) F L σ=AAN (xv F x) (xv F y) d (BN P K r) F L σ:=rfl
theorem zL (d:Option Nat) (e s n:Nat) (z:List AV) (ps:List (Nat×Nat×X)):BN P K (⟨d,.Mp e s n z ps,none⟩::r) F L σ=I3 e s n (Ia z F ps) d (BN P K r) F L σ:=rfl
theorem ACG (d:Option Nat) (x:X) (n:Option Nat):BN P K (⟨d,.ldl x n,none⟩::r) F L σ=XPv (dZ L (xv F x) n) d (BN P K r) F L σ:=rfl
theorem ADO (d:Option Nat) (x:X) (o:Nat) (n:Option Nat):BN P K (⟨d,.fd x o n,none⟩::r) F L σ=XPv (fdA (xv F x) o n) d (BN P K r) F L σ:=rfl
theorem ACP (d:Option Nat) (x:X) (a b:Option X):BN P K (⟨d,.ssl x a b,none⟩::r) F L σ=XPv (Sm (xv F x) (a.map (xv F)) (b.map (xv F))) d (BN P K r) F L σ:=rfl
theorem ACO (d:Option Nat) (x:X) (a b c:Option X) (n:Nat):BN P K (⟨d,.sls x a b c n,none⟩::r) F L σ=XPv (rG (xv F x) (a.map (xv F)) (b.map (xv F)) (c.map (xv F)) n) d (BN P K r) F L σ:=rfl
theorem zP (d:Option Nat) (ne:Bool) (x:X):BN P K (⟨d,.lO ne x,none⟩::r) F L σ=XPv (cI ne (xv F x)) d (BN P K r) F L σ:=rfl
theorem zS (d:Option Nat) (ne:Bool) (n:Nat) (x y:X):BN P K (⟨d,.mE ne n x y,none⟩::r) F L σ=XPv (cP ne n (xv F x) (xv F y)) d (BN P K r) F L σ:=rfl
theorem ACJ (d:Option Nat) (b:Bool) (x y z:X):BN P K (⟨d,.mm3 b x y z,none⟩::r) F L σ=XPv ((mmA b (xv F x) (xv F y)).bind fun v=>mmA b v (xv F z)) d (BN P K r) F L σ:=rfl
theorem zK (d:Option Nat) (x:X):BN P K (⟨d,.sK x,none⟩::r) F L σ=XPv ((dvs (xv F x).cells).map fun ds=>.d (.ptr ds)) d (BN P K r) F L σ:=rfl
theorem ADN (d:Option Nat) (k:EK) (xs:List X):BN P K (⟨d,.ex k xs,none⟩::r) F L σ=XEx k (xvs F xs) d (BN P K r) F L σ:=rfl
theorem zF (d:Option Nat) (args:List AV):XEx .cap args d K F L σ=XPv (exP .cap args) d K F L σ:=rfl
theorem zE (d:Option Nat) (args:List AV):XEx .b2s args d K F L σ=XPv (exP .b2s args) d K F L σ:=rfl
theorem zG (d:Option Nat) (args:List AV):XEx .usd args d K F L σ=XPv (exP .usd args) d K F L σ:=rfl
theorem zD (d:Nat) (t:Nat) (z:List AV):XEx (.alt t z) [] (some d) K F L σ=(Ak z=true∧∀i,(σ.blk i=none∧σ.bt i=none)→K (put d (.gp i 0) F) L ((σ.AL i z).GG i (z.length,t))):=by
 simp only [XEx,EK.pure,AW,if_false,L8,true_and,ExR,Au]
theorem XEx.Zo {d:Nat} {t n:Nat} {v:AV} (hn:v.Ay=true) (h1:Ak v.cells=true) (h2:v.cells.length=n) (h:∀i,(σ.blk i=none∧σ.bt i=none)→K (put d (.gp i 0) F) L ((σ.AL i v.cells).GG i (n,t))):XEx (.Zo t n) [v] (some d) K F L σ:=by
 refine ⟨by simp [hn],?_⟩
 exact ⟨⟨h1,h2⟩,h⟩
theorem XEx.iX {d:Nat} {ne b:Bool} {v:AV} (hn:v.Ay=true) (hv:lC v=some b) (h:K (put d (.d (.bool (b != ne))) F) L σ):XEx (.iX ne) [v] (some d) K F L σ:=by
 refine ⟨by simp [hn],?_⟩
 show (match lC v with|some b=>_|none=>_)
 rw [hv];exact h
theorem XEx.apps {d:Option Nat} {e:Nat} {s:AV} {x:List UInt8} {rows:List (List DV)} {σ1:AM} (hn:s.Ay=true) (ha:Pm σ e 1 s=some (rows,σ1)) (hl:rows.length+x.length≤140737488355328)
 (h:∀t,σ.tok t=false→K (Au d (.own t e 1 (rows++BI x)) F) L (σ1.D7 t)):XEx (.apps e) [s,.d (.str x)] d K F L σ:=
 ⟨by rw [Bv,hn];rfl,rows,σ1,ha,hl,h⟩
theorem XEx.oU {d:Option Nat} {e size bytes:Nat} {z:List AV} {k:IntKind} {n:Nat} (h0:0 < n) (hb:bytes≤10000) (hn:n≤1000000000)
 (h:∀j,σ.blk j=none→K (Au d (.ms j n size e) F) L (σ.AL j (Aj n z).flatten)):XEx (.oU e size bytes z) [.AY,.d (.int k n)] d K F L σ:=by
 refine ⟨rfl,by omega,?_,by omega,?_⟩
 · have h1:n * bytes≤1000000000 * 10000:=Oh hn hb
   have h2:((n * bytes:Nat):Int)≤((1000000000 * 10000:Nat):Int):=Int.ofNat_le.2 h1
   rw [Int.natCast_mul] at h2
   exact Int.le_trans h2 (by decide)
 · simpa using h
theorem XEx.jG {d:Option Nat} {e t:Nat} {s:List UInt8} {n:Int} (hl:n=s.length) (h0:s≠[]) (ht:σ.tok t=true) (h:K (Au d (.d (.str s)) F) L (σ.FK t)):XEx (.jG e) [.bp t e s,.d (.int .i64 n)] d K F L σ:=
 ⟨rfl,⟨rfl,hl⟩,h0,ht,h⟩
theorem Ri.mk {d:Option Nat} {e size bytes n:Nat} {s x:AV} {cs:List AV} {srows:List (List DV)} {σ1:AM} (h1:Qh σ e size s=some (n,cs,σ1)) (h2:x.rows=some srows)
 (h3:∀r∈srows,r.length=size) (h4:srows≠[]) (h5:n+srows.length≤1000000000) (hb:bytes≤10000)
 (h:∀j,σ.blk j=none→K (Au d (.ms j (n+srows.length) size e) F) L (σ1.AL j (cs++G7 srows))):Ri e size bytes s x d K F L σ:=
 ⟨n,cs,σ1,srows,h1,h2,h3,fun e=>absurd e h4,by simp only [maxLen];omega,by
   calc (n+srows.length) * bytes≤1000000000 * 10000:=Oh h5 hb
    _≤140737488355328:=by decide,fun _=>h⟩
theorem I3.mk {d:Option Nat} {e s n:Nat} {cs:List AV} (h:∀j,σ.blk j=none→K (Au d (.ms j n s e) F) L (σ.AL j cs)):I3 e s n (some cs) d K F L σ:=⟨cs,rfl,.inl h⟩
theorem I3.own {d:Option Nat} {e s n:Nat} {cs:List AV} {ds:List DV} (hd:dvs cs=some ds) (hn:0 < n) (h:∀t,σ.tok t=false→K (Au d (.own t e s (chunk s n ds)) F) L (σ.D7 t)):I3 e s n (some cs) d K F L σ:=⟨cs,rfl,.inr ⟨ds,hd,hn,h⟩⟩
theorem wS (n:Nat):Vp n none none=some (0,n):=by simp [Vp]
theorem r4.mk {d:Option Nat} {e s b:Nat} {z:List AV} (n:Nat) (hb:b * n≤281474976710656) (hn:n≤9223372036854775807) (h:∀i,σ.blk i=none→K (Au d (.ms i n s e) F) L (σ.AL i (Aj n z).flatten)):
 r4 e s b z (.d (.int .i64 n)) (.d (.int .i64 n)) d K F L σ:=
 ⟨.i64,.i64,n,rfl,rfl,by omega,by rw [← Int.natCast_mul];omega,by omega,fun i hi=>by simpa using h i hi⟩
theorem AH.mk {d:Option Nat} {f:FuncId} {args:List AV} {Q:AV→AM→Prop} (hn:args.all AV.Ay=true) (h:AP P f args σ Q) (hk:∀v σ',Q v σ'→K (Au d v F) L σ'):
 AH P f args d K F L σ:=⟨hn,Q,h,hk⟩
theorem Xt.mk {d:Option Nat} {f:FuncId} {args:List AV} {v:AV} (hn:args.all AV.Ay=true) (h:AP P f args σ (fun v' σ'=>v'=v∧σ'=σ)) (hk:K (Au d v F) L σ) (hv:v.Ay=true:=by rfl):
 Xt P f args d K F L σ:=⟨hn,v,⟨hv,h⟩,hk⟩
theorem Kf.mk {d:Option Nat} {e size bytes:Nat} {s x:AV} {rows srows:List (List DV)} {σ1:AM} (h1:Pm σ e size s=some (rows,σ1)) (h2:x.rows=some srows)
 (h3:∀r∈srows,r.length=size) (h4:rows.length+srows.length≤maxLen) (h5:(rows.length+srows.length) * bytes≤140737488355328)
 (h:∀t,σ.tok t=false→K (Au d (.own t e size (rows++srows)) F) L (σ1.D7 t)):Kf e size bytes s x d K F L σ:= .inl ⟨rows,σ1,srows,h1,h2,h3,h4,h5,h⟩
theorem Kf.clip {d:Option Nat} {e size bytes:Nat} {x:AV} {rows srows:List (List DV)} (h2:x.rows=some srows)
 (h3:∀r∈rows,r.length=size) (h3':∀r∈srows,r.length=size) (h4:rows.length+srows.length≤1000000000) (hb:bytes≤10000)
 (h:K (Au d (.d (.sl (rows++srows))) F) L σ):Kf e size bytes (.clip rows) x d K F L σ:=
 .inr ⟨rows,srows,rfl,h2,h3,h3',by simp only [maxLen];omega,by
  calc (rows.length+srows.length) * bytes≤1000000000 * 10000:=Oh h4 hb
   _≤140737488355328:=by decide,h⟩
theorem AP.args {f:FuncId} {args args':List AV} {Q:AV→AM→Prop} (h:AP P f args' σ Q) (hw:∀g vs,VRs g args vs→VRs g args' vs):AP P f args σ Q:=
 fun base g Pr w0 w vs hr hv=>h base g Pr w0 w vs hr (hw g vs hv)
theorem Xs:∀(ops:List Q) {K K':CV} {F:Fm} {L:Lm} {σ:AM},(∀F L σ,K F L σ→K' F L σ)→BN P K ops F L σ→BN P K' ops F L σ
 |[],_,_,_,_,_,hk,hx=>hk _ _ _ hx
 |q::rest,K,K',F,L,σ,hk,hx=>by
  have hx:XG (gd F q.grd) (XO P q.dst (BN P K rest) F L σ q.o) (BN P K rest (Au q.dst (.tup []) F) L σ):=hx
  show XG (gd F q.grd) (XO P q.dst (BN P K' rest) F L σ q.o) (BN P K' rest (Au q.dst (.tup []) F) L σ)
  cases hc:gd F q.grd with
  |none=>rw [hc] at hx;exact hx.elim
  |some b=>
   rw [hc] at hx
   cases b
   · exact Xs rest hk hx
   · exact jP (fun F L σ h=>Xs rest hk h) hx
def Cut (live:List Nat) (F0:Fm) (L0:Lm) (σ0:AM):CV:=fun F L σ=>WE live F=F0∧SZ live L=L0∧σ=σ0
theorem Run.ABY {cx:Cx} {KK:AV→AM→Prop} {k:List CI} {ops:List Q} {live:List Nat} (hm:cx.P.follows .mixedOrders=true) (F0:Fm) (L0:Lm) (σ0:AM)
 (h1:BN cx.P (Cut live F0 L0 σ0) ops F L σ) (h2:Run cx KK k F0 L0 σ0):Run cx KK (.code (.reg ops live)::k) F L σ:=
 Run.reg hm (Xs ops (fun F L σ h=>by obtain ⟨e1,e2,e3⟩:=h;show Run cx KK k (WE live F) (SZ live L) σ;rw [e1,e2,e3];exact h2) h1)
theorem mD {P:Program} {m m1 m':Machine} (h:step P m= .next m1) (hs:Steps P m m') (hne:m≠m'):Steps P m1 m':=by
 obtain ⟨n,hn⟩:=hs
 cases n with
 |zero=>simp only [runN] at hn;cases hn;exact absurd rfl hne
 |succ n=>simp only [runN,h] at hn;exact ⟨n,hn⟩
theorem Run.Ba {cx:Cx} {KK:AV→AM→Prop} {k:List CI} {c:C} (h:Run cx KK (.again c::k) F L σ):Run cx KK (.code (.loop c)::k) F L σ:=by
 intro items base g lam Pr a w0 w b cs hi hf hb hk
 obtain ⟨p,ys,rfl,⟨p1,rfl,h1⟩,hys⟩:=hi.code
 obtain ⟨v,w',fr,hs,hfn,hl,rest⟩:=h (.inLoop p1::ys) base g lam Pr a w0 w b cs (.cons ⟨p1,rfl,h1⟩ hys) hf hb hk
 refine ⟨v,w',fr,.head step_loop (mD step_inLoop hs fun e=>?_),hfn,hl,rest⟩
 have h2:(lone (b.at a (.inLoop p1::ys)) cs w).gs=(lone fr cs w').gs:=by rw [e]
 simp only [lone,Array.mk.injEq,List.cons.injEq,Goroutine.mk.injEq] at h2
 have h3:(b.at a (.inLoop p1::ys)).mode=fr.mode:=by rw [h2.1.1]
 rw [hl.1] at h3
 cases h3
def bB (v:AV) (A B:Prop):Prop:=
 match v with
 | .d (.bool b)=>(b=true→A)∧(b=false→B)
 |_=>False
theorem zA (b:Bool) (A B:Prop):bB (.d (.bool b)) A B=((b=true→A)∧(b=false→B)):=rfl
theorem zC (A B:Prop):bB (.d (.bool true)) A B=A:=by simp [bB]
theorem zB (A B:Prop):bB (.d (.bool false)) A B=B:=by simp [bB]
theorem Run.AJ {cx:Cx} {KK:AV→AM→Prop} {k:List CI} {x:X} {t e:C} (h:bB (xv F x) (Run cx KK (.code t::k) F L σ) (Run cx KK (.code e::k) F L σ)):Run cx KK (.code (.cond x t e)::k) F L σ:=by
 cases hx:xv F x<;>rw [hx] at h<;>try exact h.elim
 rename_i dv
 cases dv<;>try exact h.elim
 exact Run.cond hx h.1 h.2
mutual
def AV.plain:AV→AV
 | .AY=>.d (.sl [])
 | .Et=>.d .Et
 | .own _ _ _ rows=>.d (.sl rows)
 | .clip rows=>.d (.sl rows)
 | .agg cs=>.agg (AV.Dt cs)
 | .tup vs=>.tup (AV.Dt vs)
 |v=>v
def AV.Dt:List AV→List AV
 |[]=>[]
 |v::l=>AV.plain v::AV.Dt l
end
theorem QV (x:DV):AV.plain (AV.d x)=(AV.d x):=by simp only [AV.plain]
theorem I0:AV.plain AV.AY= .d (.sl []):=by simp only [AV.plain]
theorem q6 (t e s:Nat) (r:List (List DV)):AV.plain (AV.own t e s r)= .d (.sl r):=by simp only [AV.plain]
theorem lL (r:List (List DV)):AV.plain (AV.clip r)= .d (.sl r):=by simp only [AV.plain]
theorem KZ (r:List AV):AV.plain (AV.agg r)= .agg (AV.Dt r):=by simp only [AV.plain]
theorem uW (j o:Nat):AV.plain (AV.lp j o)=(AV.lp j o):=by simp only [AV.plain]
theorem uV (j o:Nat):AV.plain (AV.gp j o)=(AV.gp j o):=by simp only [AV.plain]
theorem uU (r:List DV) (o:Nat):AV.plain (AV.ep r o)=(AV.ep r o):=by simp only [AV.plain]
theorem lN:AV.plain AV.Et= .d .Et:=by simp only [AV.plain]
theorem uX (i n s e:Nat):AV.plain (AV.ms i n s e)=(AV.ms i n s e):=by simp only [AV.plain]
theorem uY (i o n s e:Nat):AV.plain (AV.mv i o n s e)=(AV.mv i o n s e):=by simp only [AV.plain]
theorem uT (t e:Nat) (s:List UInt8):AV.plain (AV.bp t e s)=(AV.bp t e s):=by simp only [AV.plain]
theorem lM:AV.plain AV.PJ=AV.PJ:=by simp only [AV.plain]
theorem plain_fn (f:FuncId) (x y:List AV):AV.plain (AV.fn f x y)=(AV.fn f x y):=by simp only [AV.plain]
theorem q7 (x:List AV):AV.plain (AV.tup x)= .tup (AV.Dt x):=by simp only [AV.plain]
theorem iB:AV.plain AV.undef=AV.undef:=by simp only [AV.plain]
theorem NR:∀(l:List AV) (i:Nat),(AV.Dt l)[i]?=(l[i]?).map AV.plain
 |[],i=>by simp [AV.Dt]
 |v::l,0=>by simp [AV.Dt]
 |v::l,i+1=>by simp [AV.Dt,NR l i]
theorem Uf:∀l:List AV,(AV.Dt l).length=l.length
 |[]=>rfl
 |v::l=>by simp [AV.Dt,Uf l]
theorem Yy {v:AV} (h:v.CQ=true):v.plain.CQ=true:=by cases v<;>first|rfl|(cases h;done)
theorem VR.plain {g:Gh} {x:AV} {v:Value} (h:VR g x v):VR g x.plain v:=by
 induction h with
 |d h=>simpa [AV.plain] using VR.d h
 |AY=>exact .d (.nil (CX _) (fun _=>rfl))
 |own h _ _=>exact .d h
 |clip h=>exact .d h
 |@agg cs vs hl hc _ ih=>
  refine .agg (by rw [Uf];exact hl) (fun c hcm=>?_) (fun i c v hci hvi=>?_)
  · obtain ⟨i,hi,rfl⟩:=Ch hcm
    have:=NR cs i
    rw [Az hi] at this
    cases hcs:cs[i]? with
    |none=>rw [hcs] at this;cases this
    |some c'=>rw [hcs] at this;simp only [C9,AR] at this;rw [this];exact Yy (hc c' (Ae hcs))
  · rw [NR] at hci
    cases hcs:cs[i]? with
    |none=>rw [hcs] at hci;cases hci
    |some c'=>rw [hcs] at hci;simp only [C9,AR] at hci;rw [← hci];exact ih i c' v hcs hvi
 |gp h=>simpa [AV.plain] using VR.gp h
 |ep hi hr=>simpa [AV.plain] using VR.ep hi hr
 |Et=>exact .d .Et
 |PJ=>simpa [AV.plain] using VR.PJ
 |ms h hr hn hm=>simpa [AV.plain] using VR.ms h hr hn hm
 |mv h hr hn hm ho=>simpa [AV.plain] using VR.mv h hr hn hm ho
 |bp h k=>simpa [AV.plain] using VR.bp h k
 |fn hl hl' h h' _ _=>simpa [AV.plain] using VR.fn hl hl' h h'
 |@tup cs vs hl _ ih=>
  refine .tup (by rw [Uf];exact hl) (fun i c v hci hvi=>?_)
  rw [NR] at hci
  cases hcs:cs[i]? with
  |none=>rw [hcs] at hci;cases hci
  |some c'=>rw [hcs] at hci;simp only [C9,AR] at hci;rw [← hci];exact ih i c' v hcs hvi
 |undef=>simpa [AV.plain] using VR.undef
theorem VRs.plain {g:Gh} {xs:List AV} {vs:List Value} (h:VRs g xs vs):VRs g (AV.Dt xs) vs:=by
 induction h with
 |nil=>exact .nil
 |cons h _ ih=>exact .cons h.plain ih
theorem AP.plain {f:FuncId} {args:List AV} {Q:AV→AM→Prop} (h:AP P f (AV.Dt args) σ Q):AP P f args σ Q:=
 fun base g Pr w0 w vs hr hv=>h base g Pr w0 w vs hr hv.plain
def AAL (o:Option AV) (K:AV→AM→Prop) (σ:AM):Prop:=
 match o with
 |some v=>K v σ
 |none=>False
theorem rV (v:AV) (K:AV→AM→Prop) (σ:AM):AAL (some v) K σ=K v σ:=rfl
theorem Run.Ad {cx:Cx} {KK:AV→AM→Prop} {k:List CI} {σ2:AM} (hg:Good cx) (hσ:σ2.le σ) (h:AAL ((eM F L σ cx.rs).map AV.plain) KK σ2):Run cx KK (.code .ret::k) F L σ:=by
 cases hr:eM F L σ cx.rs with
 |none=>rw [hr] at h;exact h.elim
 |some v=>rw [hr] at h;exact Run.ret hg hr (fun _ _ h=>h.plain) hσ h
theorem Run.GR {cx:Cx} {KK:AV→AM→Prop} {k:List CI} {σ2:AM} (hg:Good cx) (hσ:σ2.le σ) (h:AAL (eM F L σ cx.rs) KK σ2):Run cx KK (.code .ret::k) F L σ:=by
 cases hr:eM F L σ cx.rs with
 |none=>rw [hr] at h;exact h.elim
 |some v=>rw [hr] at h;exact Run.ret hg hr (fun _ _ h=>h) hσ h
theorem AO (σ:AM) (i j:Nat) (cs:List AV):(σ.AL i cs).blk j=if j=i then some cs else σ.blk j:=rfl
theorem A4 (σ:AM) (i:Nat) (cs ds:List AV):(σ.AL i cs).AL i ds=σ.AL i ds:=by
 unfold AM.AL
 congr 1
 funext j
 by_cases h:j=i<;>simp [h]
theorem Il {σ:AM} {i:Nat} {cs:List AV} (h:σ.blk i=some cs):σ.AL i cs=σ:=by
 unfold AM.AL
 cases σ
 congr 1
 funext j
 split
 · rename_i e;subst e;exact h.symm
 · rfl
theorem GJ (σ:AM) (t i:Nat):(σ.D7 t).blk i=σ.blk i:=rfl
theorem kD (σ:AM) (t i:Nat):(σ.FK t).blk i=σ.blk i:=rfl
theorem AM.le_trans {a b c:AM} (h:a.le b) (k:b.le c):a.le c:=⟨fun i cs x=>k.blk i cs (h.blk i cs x),fun t x=>k.tok t (h.tok t x),h.gt.trans k.gt,fun i x hx=>k.bt i x (h.bt i x hx)⟩
theorem FN {σ:AM} {i:Nat} {cs:List AV} (h:σ.blk i=none):σ.le (σ.AL i cs):=
 ⟨fun j ds hj=>by
   have:j≠i:=fun e=>by rw [e,h] at hj;cases hj
   rw [AO,if_neg this];exact hj,fun _ h=>h,rfl,fun _ _ h=>h⟩
structure EW (σ:AM) (e s:Nat) (rows:List (List DV)) (v:AV) (σ':AM):Prop where
 app:∃σ1,Pm σ' e s v=some (rows,σ1)∧σ.le σ1
 le:σ.le σ'
 plain:v.plain= .d (.sl rows)
 len:T6 v=some (.d (.int .i64 rows.length))
 cell:v.CQ=true
 Ay:v.Ay=true
 BR:∀k,v.BR k=false
 dv:v.dv=some (.sl rows)
 cells:v.cells=[v]
theorem EW.nil (σ:AM) (e s:Nat):EW σ e s [] .AY σ:=
 ⟨⟨σ,rfl,AM.le_refl σ⟩,AM.le_refl σ,rfl,rfl,rfl,rfl,fun _=>rfl,rfl,rfl⟩
theorem EW.own {σ σ1 σ':AM} {e s t:Nat} {rows:List (List DV)} (hle:σ.le σ1) (hle':σ.le σ') (ht:σ'.tok t=false):EW σ e s rows (.own t e s rows) (σ1.D7 t):=by
 have hnt:σ.tok t=false:=by
  cases h:σ.tok t with
  |false=>rfl
  |true=>rw [hle'.tok t h] at ht;cases ht
 refine ⟨⟨(σ1.D7 t).FK t,by simp [Pm,AM.D7],⟨fun i cs h=>hle.blk i cs h,fun t' h=>?_,hle.gt,hle.bt⟩⟩,⟨fun i cs h=>hle.blk i cs h,fun t' h=>?_,hle.gt,hle.bt⟩,rfl,rfl,rfl,rfl,fun _=>rfl,rfl,rfl⟩
 · have hne:t'≠t:=fun e=>by rw [e,hnt] at h;cases h
   simp [AM.FK,AM.D7,hne,hle.tok t' h]
 · have hne:t'≠t:=fun e=>by rw [e,hnt] at h;cases h
   simp [AM.D7,hne,hle.tok t' h]
theorem Kf.own {σ0:AM} {d:Option Nat} {e size bytes:Nat} {s x:AV} {rows srows:List (List DV)} (ho:EW σ0 e size rows s σ) (h2:x.rows=some srows)
 (h3:∀r∈srows,r.length=size) (h4:rows.length+srows.length≤1000000000) (hb:bytes≤10000)
 (h:∀v σ',EW σ0 e size (rows++srows) v σ'→(∀i,σ'.blk i=σ.blk i)→K (Au d v F) L σ'):Kf e size bytes s x d K F L σ:=by
 obtain ⟨σ1,ha,hl⟩:=ho.app
 refine Kf.mk ha h2 h3 (by simp only [maxLen];omega) ?_ (fun t ht=>h _ _ (EW.own hl ho.le ht) (fun i=>?_))
 · calc (rows.length+srows.length) * bytes≤1000000000 * 10000:=Oh h4 hb
    _≤140737488355328:=by decide
 · rw [GJ]
   unfold Pm at ha
   split at ha
   · cases ha;rfl
   · split at ha
     · cases ha;rfl
     · cases ha
   · cases ha
variable {cx:Cx} {KK:AV→AM→Prop} {k:List CI}
theorem Run.facts {p:Prop} (hp:∀base g lam Pr a w0 w,B1 base g lam Pr cx.N F L σ a w0 w→p) (h:p→Run cx KK k F L σ):Run cx KK k F L σ:=
 fun items base g lam Pr a w0 w b cs hi hf hb hk=>h (hp base g lam Pr a w0 w hf) items base g lam Pr a w0 w b cs hi hf hb hk
def AV.HR:AV→Prop
 | .d (.sl rows)=>rows.length≤9223372036854775807
 | .d (.str s)=>s.length≤9223372036854775807
 | .d (.int k n)=>k.min≤n∧n≤k.max
 | .own _ _ _ rows=>rows.length≤9223372036854775807
 | .clip rows=>rows.length≤9223372036854775807
 |_=>True
theorem VR.HR {g:Gh} {x:AV} {v:Value} (h:VR g x v):x.HR:=by
 cases h with
 |d h=>
  cases h with
  |int h=>exact h
  |bool=>trivial
  |str h=>exact h
  |nil=>simp [AV.HR]
  |sl hc hm _ _ _=>exact BD hc hm
  |ptr=>trivial
  |Et=>trivial
 |own h _ _=>obtain ⟨_,_,_,h2⟩:=h.K5;exact h2
 |clip h=>obtain ⟨_,_,_,h2⟩:=h.K5;exact h2
 |_=>trivial
theorem SV.HR {g:Gh} {lam:Nat→Option Nat} {x:AV} {v:Value} (h:SV g lam x v):x.HR:=by
 cases x<;>first|exact VR.HR h|trivial
theorem Run.slot (s:Nat) (h:(F s).HR→Run cx KK k F L σ):Run cx KK k F L σ:=
 Run.facts (fun _ _ _ _ _ _ _ hf=>(hf.tm s).HR) h
theorem Run.cell (j o:Nat) {cs:List AV} {c:AV} (hL:L j=some cs) (hc:cs[o]?=some c) (h:c.HR→Run cx KK k F L σ):Run cx KK k F L σ:=
 Run.facts (fun _ _ _ _ _ _ _ hf=>by
  obtain ⟨_,b,vs,ty,_,_,_,hr⟩:=hf.loc j cs hL
  obtain ⟨v,_,hv⟩:=hr.at o c hc
  exact hv.HR) h
end Go.Ab
