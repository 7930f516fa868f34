/- Compact code, its runs at the abstract level, and contracts out of runs. Equations that run compact code at the abstract level. Conditions: none. -/
import Derived.Scope
import Derived.Test.YtdbpmhfepfpldaaDoorXAb10d
set_option linter.unusedSimpArgs false
set_option linter.unusedVariables false
set_option maxRecDepth 4000
set_option maxHeartbeats 8000000
open List renaming range→Da,all_cons→Ar,getD_eq_getElem?_getD→IK,getElem?_eq_some_iff→AL,mem_cons→BD,all_nil→Cq,replicate→AH,length_nil→B7,getElem_of_mem→B5,getElem?_eq_getElem→AZ,mem_of_getElem?→BA
open Option.some renaming injEq→AD
open Prod.mk renaming injEq→CB
open Option renaming getD_some→GR,map_eq_some_iff→AB,bind_eq_some_iff→AA,bind_eq_bind→AE,map_some→Ax
open Go renaming undef→BW
open Bool renaming and_eq_true→AJ,false_eq_true→A4
open Nat renaming le_refl→AP,mul_le_mul→ED,zero_le→BM,le_trans→Aa
open Array renaming replicate→Bp,getD_eq_getD_getElem?→BF
open List.cons renaming injEq→HQ
namespace Go.Ab
open Go.RowKit
inductive C where
 |skip
 |reg (ops:List Q) (live:List Nat)
 |Sx (t:QT) (live:List Nat)
 |seq (x y:C)
 |cond (x:X) (t e:C)
 |block (id:Nat) (c:C)
 |loop (c:C)
 |exit (id:Nat)
 |ret
 |scope (c:C)
 |bad
inductive CI where
 |code (c:C)
 |blk (id:Nat)
 |scp
 |again (c:C)
def Oi (P:Program) (N:Nat) (esc:List Nat) (pf:List FuncId) (live:List Nat) (pt:PT) (ops:Array Oper):Option C:=
 match pt with
 | .done=>(Pl P N esc pf (Da ops.size) ops).map fun q=>.reg q live
 |pt=>(Kq P N esc pf pt ops).map fun t=>match lin t with
  |some q=>.reg q live
  |none=>.Sx t live
def Ct (P:Program) (N:Nat) (esc:List Nat) (pf:List FuncId):Code→List (List Nat×PT)→Option (C×List (List Nat×PT))
 | .skip,ct=>some (.skip,ct)
 | .region _ ops false,(live,_)::ct=>some (((Eo P N esc ops (Da ops.size)).map fun q=>C.reg q live).getD .bad,ct)
 | .region _ ops true,(live,pt)::ct=>some ((Oi P N esc pf live pt ops).getD .bad,ct)
 | .seq x y,ct=>(Ct P N esc pf x ct).bind fun r=>(Ct P N esc pf y r.2).map fun r'=>(.seq r.1 r'.1,r'.2)
 | .cond c t e,ct=>(xo c).bind fun c'=>(Ct P N esc pf t ct).bind fun r=>(Ct P N esc pf e r.2).map fun r'=>(.cond c' r.1 r'.1,r'.2)
 | .block id c,ct=>(Ct P N esc pf c ct).map fun r=>(.block id r.1,r.2)
 | .loop c,ct=>(Ct P N esc pf c ct).map fun r=>(.loop r.1,r.2)
 | .exit id,ct=>some (.exit id,ct)
 | .ret,ct=>some (.ret,ct)
 | .scope c,ct=>(Ct P N esc pf c ct).map fun r=>(.scope r.1,r.2)
 | .label _,ct=>some (.skip,ct)
 |_,_=>none
inductive RV where
 |t (n:Nat)
 |c (n:Nat) (k:Option Nat)
def Jd (P:Program):List ResultVar→Option (List RV)
 |[]=>some []
 | .tmp n::l=>do some (.t n::(← Jd P l))
 | .cell n t::l=>do
  let k ← ldN P t
  some (.c n k::(← Jd P l))
def rvA (F:Fm) (L:Lm) (σ:AF):RV→Option AV
 | .t n=>some (F n)
 | .c n k=>ldA L σ (F n) k
def NR (F:Fm) (L:Lm) (σ:AF):List RV→Option (List AV)
 |[]=>some []
 |r::l=>do some ((← rvA F L σ r)::(← NR F L σ l))
def LW (F:Fm) (L:Lm) (σ:AF) (rs:List RV):Option AV:=
 (NR F L σ rs).bind fun vs=>if vs.all AV.BC then (match vs with|[v]=>some v|vs=>some (.tup vs)) else none
def Mu (ks:List Nat) (F:Fm):Fm:=fun s=>if s∈ks then F s else .undef
def Ik (ks:List Nat) (L:Lm):Lm:=fun s=>if s∈ks then L s else none
variable {P:Program} {base N:Nat} {g g':Gh} {Pr:Nat→Prop} {σ σ':AF} {w0 w w':World} {lam:Nat→Option Nat} {F F':Fm} {L L':Lm} {a:Act}
theorem Ak.VX (h:Ak base g lam Pr N F L σ a w0 w) (hF:∀s,F' s=F s∨F' s= .undef) (hL:∀k cs,L' k=some cs→L k=some cs) (hσ:σ'.le σ):Ak base g lam Pr N F' L' σ' a w0 w:=by
 refine ⟨fun s=>?_,h.sz,h.df,fun k cs hk=>h.loc k cs (hL k cs hk),h.inj,h.npr,h.rel.less hσ⟩
 rcases hF s with e|e
 · rw [e];exact h.tm s
 · rw [e];exact VR.undef
theorem Ak.kept (h:Ak base g lam Pr N F L σ a w0 w) (ks:List Nat):Ak base g lam Pr N (Mu ks F) (Ik ks L) σ a w0 w:=
 h.VX (fun s=>by simp only [Mu];split<;>simp) (fun k cs hk=>by simp only [Ik] at hk;split at hk<;>simp_all) (AF.le_refl σ)
structure Cx where
 P:Program
 f:FuncId
 fn:Func
 N:Nat
 esc:List Nat
 pf:List FuncId
 rs:List RV
def RC (cx:Cx):C→Code→Prop
 | .skip,k=>k= .skip∨∃l,k= .label l
 | .scope c,k=>∃p,k= .scope p∧RC cx c p
 | .reg ops _,k=>∃id arr,(k= .region id arr false∧Eo cx.P cx.N cx.esc arr (Da arr.size)=some ops)∨(k= .region id arr true∧∃order,Pl cx.P cx.N cx.esc cx.pf order arr=some ops)∨(k= .region id arr true∧∃pt t,Kq cx.P cx.N cx.esc cx.pf pt arr=some t∧lin t=some ops)
 | .Sx t _,k=>∃id arr pt,k= .region id arr true∧Kq cx.P cx.N cx.esc cx.pf pt arr=some t
 | .seq x y,k=>∃p q,k= .seq p q∧RC cx x p∧RC cx y q
 | .cond x t e,k=>∃c p q,k= .cond c p q∧xo c=some x∧RC cx t p∧RC cx e q
 | .block id c,k=>∃p,k= .block id p∧RC cx c p
 | .loop c,k=>∃p,k= .loop p∧RC cx c p
 | .exit id,k=>k= .exit id
 | .ret,k=>k= .ret
 | .bad,_=>True
theorem AU (cx:Cx):∀(k:Code) (ct:List (List Nat×PT)) (c:C) (ct':List (List Nat×PT)),Ct cx.P cx.N cx.esc cx.pf k ct=some (c,ct')→RC cx c k
 | .skip,ct,c,ct',h=>by simp only [Ct,AD,CB] at h;rw [← h.1];exact .inl rfl
 | .region id ops dr,ct,c,ct',h=>by
  cases ct with
  |nil=>cases dr<;>simp only [Ct] at h<;>cases h
  |cons lo ct=>
   obtain ⟨live,order⟩:=lo
   cases dr
   · simp only [Ct,AD,CB] at h
     obtain ⟨rfl,_⟩:=h
     cases hq:Eo cx.P cx.N cx.esc ops (Da ops.size) with
     |none=>exact trivial
     |some qs=>exact ⟨id,ops,.inl ⟨rfl,hq⟩⟩
   · simp only [Ct,AD,CB] at h
     obtain ⟨rfl,_⟩:=h
     cases hq:Oi cx.P cx.N cx.esc cx.pf live order ops with
     |none=>exact trivial
     |some c'=>
     simp only [GR]
     unfold Oi at hq
     split at hq
     · simp only [AB] at hq
       obtain ⟨qs,hq',rfl⟩:=hq
       exact ⟨id,ops,.inr (.inl ⟨rfl,_,hq'⟩)⟩
     · simp only [AB] at hq
       obtain ⟨t,ht,rfl⟩:=hq
       cases hl:lin t with
       |some q=>exact ⟨id,ops,.inr (.inr ⟨rfl,_,t,ht,hl⟩)⟩
       |none=>exact ⟨id,ops,_,rfl,ht⟩
 | .seq x y,ct,c,ct',h=>by
  simp only [Ct,AA,AB,CB] at h
  obtain ⟨⟨x',c1⟩,hx,⟨y',c2⟩,hy,rfl,_⟩:=h
  exact ⟨x,y,rfl,AU cx x _ _ _ hx,AU cx y _ _ _ hy⟩
 | .cond c t e,ct,c2,ct',h=>by
  simp only [Ct,AA,AB,CB] at h
  obtain ⟨x,hx,⟨t',c1⟩,ht,⟨e',c3⟩,he,rfl,_⟩:=h
  exact ⟨c,t,e,rfl,hx,AU cx t _ _ _ ht,AU cx e _ _ _ he⟩
 | .block id p,ct,c,ct',h=>by
  simp only [Ct,AB,CB] at h
  obtain ⟨⟨c',c1⟩,hc,rfl,_⟩:=h
  exact ⟨p,rfl,AU cx p _ _ _ hc⟩
 | .loop p,ct,c,ct',h=>by
  simp only [Ct,AB,CB] at h
  obtain ⟨⟨c',c1⟩,hc,rfl,_⟩:=h
  exact ⟨p,rfl,AU cx p _ _ _ hc⟩
 | .exit id,ct,c,ct',h=>by simp only [Ct,AD,CB] at h;rw [← h.1];rfl
 | .ret,ct,c,ct',h=>by simp only [Ct,AD,CB] at h;rw [← h.1];rfl
 | .rangeFunc ..,ct,c,ct',h=>by simp only [Ct] at h;cases h
 | .scope p,ct,c,ct',h=>by
  simp only [Ct,AB,CB] at h
  obtain ⟨⟨c',c1⟩,hc,rfl,_⟩:=h
  exact ⟨p,rfl,AU cx p _ _ _ hc⟩
 | .label l,ct,c,ct',h=>by simp only [Ct,AD,CB] at h;rw [← h.1];exact .inr ⟨l,rfl⟩
 | .goto _,ct,c,ct',h=>by simp only [Ct] at h;cases h
 | .refuse _,ct,c,ct',h=>by simp only [Ct] at h;cases h
def RI (cx:Cx):CI→Item→Prop
 | .code c,y=>∃k,y= .code k∧RC cx c k
 | .blk id,y=>y= .inBlock id
 | .scp,y=>∃k,y= .inScope k
 | .again c,y=>∃k,y= .inLoop k∧RC cx c k
inductive RIs (cx:Cx):List CI→List Item→Prop
 |nil:RIs cx [] []
 |cons {x:CI} {y:Item} {xs:List CI} {ys:List Item} (h:RI cx x y) (hs:RIs cx xs ys):RIs cx (x::xs) (y::ys)
def Good (cx:Cx):Prop:=cx.P.funcs[cx.f]?=some cx.fn∧Jd cx.P cx.fn.results.toList=some cx.rs
def Run (cx:Cx) (K:AV→AF→Prop) (todo:List CI) (F:Fm) (L:Lm) (σ:AF):Prop:=
 ∀(items:List Item) (base:Nat) (g:Gh) (lam:Nat→Option Nat) (Pr:Nat→Prop) (a:Act) (w0 w:World) (b:Frame) (cs:List Frame),
  RIs cx todo items→Ak base g lam Pr cx.N F L σ a w0 w→b.fn=cx.f→b.kind= .normal→
  ∃v w' fr,Steps cx.P (lone (b.at a items) cs w) (lone fr cs w')∧fr.fn=cx.f∧fr.leaving cx.P w' (.returned v)∧
   ∃av g' σ',VR g' av v∧Rel base g' Pr σ' w0 w'∧g.le g'∧KP Pr w w'∧K av σ'
variable {cx:Cx} {K:AV→AF→Prop} {k:List CI}
theorem Run.VX (hF:∀s,F' s=F s∨F' s= .undef) (hL:∀k cs,L' k=some cs→L k=some cs) (hσ:σ'.le σ) (h:Run cx K k F' L' σ'):Run cx K k F L σ:=
 fun items base g lam Pr a w0 w b cs hi hf hb hk=>h items base g lam Pr a w0 w b cs hi (hf.VX hF hL hσ) hb hk
theorem Run.Eb {k':List CI}
 (hs:∀items,RIs cx k items→∃items',RIs cx k' items'∧∀(b:Frame) (a:Act) (cs:List Frame) (w:World),step cx.P (lone (b.at a items) cs w)= .next (lone (b.at a items') cs w))
 (h:Run cx K k' F L σ):Run cx K k F L σ:=by
 intro items base g lam Pr a w0 w b cs hi hf hb hk
 obtain ⟨items',hi',hst⟩:=hs items hi
 obtain ⟨v,w',fr,hss,rest⟩:=h items' base g lam Pr a w0 w b cs hi' hf hb hk
 exact ⟨v,w',fr,.head (hst b a cs w) hss,rest⟩
theorem RIs.code {c:C} {items:List Item} (h:RIs cx (.code c::k) items):∃p ys,items= .code p::ys∧RC cx c p∧RIs cx k ys:=by
 cases h with
 |cons hy hys=>obtain ⟨p,rfl,hp⟩:=hy;exact ⟨p,_,rfl,hp,hys⟩
theorem RIs.Ea {c:C} {p:Code} {ys:List Item} (hc:RC cx c p) (h:RIs cx k ys):RIs cx (.code c::k) (.code p::ys):= .cons ⟨p,rfl,hc⟩ h
theorem Run.skip (h:Run cx K k F L σ):Run cx K (.code .skip::k) F L σ:=
 h.Eb fun items hi=>by
  obtain ⟨p,ys,rfl,hp,hys⟩:=hi.code
  rcases hp with rfl|⟨l,rfl⟩
  · exact ⟨ys,hys,fun b a cs w=>step_skip⟩
  · exact ⟨ys,hys,fun b a cs w=>step_label⟩
theorem Run.scope {c:C} (h:Run cx K (.code c::.scp::k) F L σ):Run cx K (.code (.scope c)::k) F L σ:=
 h.Eb fun items hi=>by
  obtain ⟨p,ys,rfl,⟨p1,rfl,h1⟩,hys⟩:=hi.code
  exact ⟨_,.Ea h1 (.cons ⟨p1,rfl⟩ hys),fun b a cs w=>step_scope⟩
theorem Run.scp (h:Run cx K k F L σ):Run cx K (.scp::k) F L σ:=
 h.Eb fun items hi=>by
  cases hi with
  |cons hy hys=>obtain ⟨p,rfl⟩:=hy;exact ⟨_,hys,fun b a cs w=>step_inScope⟩
theorem Run.seq {x y:C} (h:Run cx K (.code x::.code y::k) F L σ):Run cx K (.code (.seq x y)::k) F L σ:=
 h.Eb fun items hi=>by
  obtain ⟨p,ys,rfl,⟨p1,p2,rfl,h1,h2⟩,hys⟩:=hi.code
  exact ⟨_,.Ea h1 (.Ea h2 hys),fun b a cs w=>step_seq⟩
theorem Run.block {id:Nat} {c:C} (h:Run cx K (.code c::.blk id::k) F L σ):Run cx K (.code (.block id c)::k) F L σ:=
 h.Eb fun items hi=>by
  obtain ⟨p,ys,rfl,⟨p1,rfl,h1⟩,hys⟩:=hi.code
  exact ⟨_,.Ea h1 (.cons rfl hys),fun b a cs w=>step_block⟩
theorem Run.blk {id:Nat} (h:Run cx K k F L σ):Run cx K (.blk id::k) F L σ:=
 h.Eb fun items hi=>by
  cases hi with
  |cons hy hys=>cases hy;exact ⟨_,hys,fun b a cs w=>step_inBlock⟩
theorem Run.loop {c:C} (h:Run cx K (.code c::.again c::k) F L σ):Run cx K (.code (.loop c)::k) F L σ:=
 h.Eb fun items hi=>by
  obtain ⟨p,ys,rfl,⟨p1,rfl,h1⟩,hys⟩:=hi.code
  exact ⟨_,.Ea h1 (.cons ⟨p1,rfl,h1⟩ hys),fun b a cs w=>step_loop⟩
theorem Run.again {c:C} (h:Run cx K (.code c::.again c::k) F L σ):Run cx K (.again c::k) F L σ:=
 h.Eb fun items hi=>by
  cases hi with
  |cons hy hys=>obtain ⟨p1,rfl,h1⟩:=hy;exact ⟨_,.Ea h1 (.cons ⟨p1,rfl,h1⟩ hys),fun b a cs w=>step_inLoop⟩
def I8 (id:Nat):List CI→Option (List CI)
 | .blk id'::k=>if id'=id then some k else I8 id k
 |_::k=>I8 id k
 |[]=>none
theorem EE {id:Nat}:∀(k:List CI) (items:List Item) (k':List CI),RIs cx k items→I8 id k=some k'→∃items',exitTo id items=some items'∧RIs cx k' items'
 |[],_,_,_,h=>by cases h
 |x::k,items,k',hi,h=>by
  cases hi with
  |@cons _ y _ ys hy hys=>
   cases x with
   |code c=>
    obtain ⟨p,rfl,_⟩:=hy
    obtain ⟨i',h1,h2⟩:=EE k ys k' hys (by simpa [I8] using h)
    exact ⟨i',by simpa [exitTo] using h1,h2⟩
   |again c=>
    obtain ⟨p,rfl,_⟩:=hy
    obtain ⟨i',h1,h2⟩:=EE k ys k' hys (by simpa [I8] using h)
    exact ⟨i',by simpa [exitTo] using h1,h2⟩
   |scp=>
    obtain ⟨p,rfl⟩:=hy
    obtain ⟨i',h1,h2⟩:=EE k ys k' hys (by simpa [I8] using h)
    exact ⟨i',by simpa [exitTo] using h1,h2⟩
   |blk id'=>
    cases hy
    simp only [I8] at h
    split at h
    · rename_i e
      cases h
      exact ⟨ys,by simp [exitTo,e],hys⟩
    · rename_i e
      obtain ⟨i',h1,h2⟩:=EE k ys k' hys h
      exact ⟨i',by simpa [exitTo,e] using h1,h2⟩
theorem Run.exit {id:Nat} {k':List CI} (he:I8 id k=some k') (h:Run cx K k' F L σ):Run cx K (.code (.exit id)::k) F L σ:=
 h.Eb fun items hi=>by
  obtain ⟨p,ys,rfl,hp,hys⟩:=hi.code
  cases hp
  obtain ⟨i',h1,h2⟩:=EE k ys k' hys he
  exact ⟨i',h2,fun b a cs w=>step_exit h1⟩
theorem Run.cond {x:X} {t e:C} {b:Bool} (hx:xv F x= .d (.bool b)) (ht:b=true→Run cx K (.code t::k) F L σ) (he:b=false→Run cx K (.code e::k) F L σ):
 Run cx K (.code (.cond x t e)::k) F L σ:=by
 intro items base g lam Pr a w0 w fb cs hi hf hb hk
 obtain ⟨p,ys,rfl,⟨c,p1,p2,rfl,hc,h1,h2⟩,hys⟩:=hi.code
 have hv:=AQ hc hf
 rw [hx] at hv
 have hev:a.eval c= .bool b:=by generalize a.eval c=vc at hv;cases hv with|d hh=>cases hh;rfl
 cases b with
 |true=>
  obtain ⟨v,w',fr,hs,rest⟩:=ht rfl _ base g lam Pr a w0 w fb cs (.Ea h1 hys) hf hb hk
  exact ⟨v,w',fr,.head (step_cond hev) hs,rest⟩
 |false=>
  obtain ⟨v,w',fr,hs,rest⟩:=he rfl _ base g lam Pr a w0 w fb cs (.Ea h2 hys) hf hb hk
  exact ⟨v,w',fr,.head (step_cond hev) hs,rest⟩
def QF (cx:Cx) (K:AV→AF→Prop) (k:List CI) (live:List Nat):BX:=fun F L σ=>Run cx K k (Mu live F) (Ik live L) σ
theorem Run.reg {ops:List Q} {live:List Nat} (hm:cx.P.follows .mixedOrders=true) (h:Ai cx.P (QF cx K k live) ops F L σ):Run cx K (.code (.reg ops live)::k) F L σ:=by
 intro items base g lam Pr a w0 w b cs hi hf hb hk
 obtain ⟨p,ys,rfl,⟨id,arr,hp⟩,hys⟩:=hi.code
 have hw:p.wp cx.P (fun e a' w'=>e= .normal∧Bz base Pr cx.N w0 g w (QF cx K k live) a' w') a w:=by
  rcases hp with ⟨rfl,hc⟩|⟨rfl,order,hc⟩|⟨rfl,pt,t,hc,hl⟩
  · exact wp_region (Li cx.P arr cx.N cx.esc (QF cx K k live) _ _ base g lam Pr F L σ a w0 w hc h hf (fun _ _ h=>⟨rfl,h⟩))
  · exact On hm hc h hf
  · exact Je hm hc (S1 t ops F L σ hl h) hf
 obtain ⟨e,a',w',⟨he,g',lam',F',L',σ',hle,hkp,hf',hK⟩,harr⟩:=hw b ys cs
 subst he
 obtain ⟨v,w2,fr,hs,hfn,hl,av,g2,σ2,hvr,hrel,hle2,hkp2,hk2⟩:=hK ys base g' lam' Pr a' w0 w' b cs hys (hf'.kept live) hb hk
 exact ⟨v,w2,fr,Steps.trans harr hs,hfn,hl,av,g2,σ2,hvr,hrel,Gh.le_trans hle hle2,hkp.trans hkp2,hk2⟩
theorem Run.Sx {t:QT} {live:List Nat} (hm:cx.P.follows .mixedOrders=true) (h:XT cx.P (QF cx K k live) false t F L σ):Run cx K (.code (.Sx t live)::k) F L σ:=by
 intro items base g lam Pr a w0 w b cs hi hf hb hk
 obtain ⟨p,ys,rfl,⟨id,arr,pt,rfl,hc⟩,hys⟩:=hi.code
 have hw:(Code.region id arr true).wp cx.P (fun e a' w'=>e= .normal∧Bz base Pr cx.N w0 g w (QF cx K k live) a' w') a w:=Je hm hc h hf
 obtain ⟨e,a',w',⟨he,g',lam',F',L',σ',hle,hkp,hf',hK⟩,harr⟩:=hw b ys cs
 subst he
 obtain ⟨v,w2,fr,hs,hfn,hl,av,g2,σ2,hvr,hrel,hle2,hkp2,hk2⟩:=hK ys base g' lam' Pr a' w0 w' b cs hys (hf'.kept live) hb hk
 exact ⟨v,w2,fr,Steps.trans harr hs,hfn,hl,av,g2,σ2,hvr,hrel,Gh.le_trans hle hle2,hkp.trans hkp2,hk2⟩
theorem JZ (hf:Ak base g lam Pr N F L σ a w0 w):∀(l:List ResultVar) (rs:List RV) (vs:List AV),Jd P l=some rs→NR F L σ rs=some vs→vs.all AV.BC=true→
 ∃xs:List Value,(l.mapM fun| .tmp t=>pure (a.tmps.getD t BW)| .cell ad t=>do loadVar t (← asAddr (a.tmps.getD ad BW)):Sem (List Value)).run P w= .ok xs w∧VRs g vs xs
 |[],rs,vs,hc,hv,_=>by
  simp only [Jd,AD] at hc;subst hc
  simp only [NR,AD] at hv;subst hv
  exact ⟨[],by simp,.nil⟩
 | .tmp n::l,rs,vs,hc,hv,hn=>by
  simp only [Jd,AE,AA] at hc
  obtain ⟨rs',hrs,he⟩:=hc
  cases he
  simp only [NR,AE,AA,rvA] at hv
  obtain ⟨v,hv1,vs',hvs,he⟩:=hv
  cases he;cases hv1
  simp only [Ar,AJ] at hn
  obtain ⟨xs,hx,hr⟩:=JZ hf l rs' vs' hrs hvs hn.2
  exact ⟨a.tmps.getD n BW::xs,by simp only [List.mapM_cons,Sem.run_bind,Sem.run_pure,Result.andThen_ok,hx],.cons ((hf.tm n).vr hn.1) hr⟩
 | .cell n t::l,rs,vs,hc,hv,hn=>by
  simp only [Jd,AE,AA] at hc
  obtain ⟨kk,hkk,rs',hrs,he⟩:=hc
  cases he
  simp only [NR,AE,AA,rvA] at hv
  obtain ⟨v,hv1,vs',hvs,he⟩:=hv
  cases he
  simp only [Ar,AJ] at hn
  obtain ⟨xs,hx,hr⟩:=JZ hf l rs' vs' hrs hvs hn.2
  obtain ⟨x,hld,hvr⟩:=Nx (P:=P) hkk hf (hf.tm n) hv1
  have hasaddr:(do loadVar t (← asAddr (a.tmps.getD n BW)):Sem Value).run P w= .ok x w:=by
   have hs:=hf.tm n
   generalize a.tmps.getD n BW=pn at hs hld
   cases hp:pn<;>simp only [hp,Instr.loadAt,Instr.sureAddr] at hld<;>try (simp at hld;done)
   rename_i ad
   cases ad with
   |none=>simp at hld
   |some ad=>simpa [asAddr,Instr.sureAddr] using hld
  exact ⟨x::xs,by simp only [Sem.run_bind] at hasaddr;simp only [List.mapM_cons,Sem.run_bind,hasaddr,hx,Result.andThen_ok,Sem.run_pure],.cons hvr hr⟩
theorem M6 {fn:Func} {rs:List RV} (hc:Jd P fn.results.toList=some rs) (hf:Ak base g lam Pr N F L σ a w0 w) {v:AV} (hv:LW F L σ rs=some v):
 ∃x,(results fn a.tmps).run P w= .ok x w∧VR g v x:=by
 simp only [LW,AA] at hv
 obtain ⟨vs,hvs,hv⟩:=hv
 split at hv
 case isFalse=>cases hv
 rename_i hn
 obtain ⟨xs,hx,hr⟩:=JZ (P:=P) hf _ rs vs hc hvs hn
 have hrun:(results fn a.tmps).run P w= .ok (if h:xs.toArray.size=1 then xs.toArray[0] else .tuple xs.toArray) w:=by
  unfold results
  rw [Array.mapM_eq_mapM_toList]
  simp only [Sem.run_bind,Sem.run_map,Sem.run_pure]
  exact congrArg (fun r:Result (List Value)=>(r.andThen fun a w'=>Result.ok a.toArray w').andThen fun (a:Array Value) w'=>Result.ok (if h:a.size=1 then a[0] else Value.tuple a) w') hx
 have hlen:=hr.length
 cases vs with
 |nil=>
  cases hv
  cases hr
  exact ⟨_,hrun,by simpa using VR.tup (g:=g) (cs:=[]) (vs:=[]) rfl (by simp)⟩
 |cons v1 vs=>
  cases vs with
  |nil=>
   cases hv
   cases hr with|cons h1 h2=>cases h2;exact ⟨_,hrun,by simpa using h1⟩
  |cons v2 vs=>
   cases hv
   refine ⟨_,hrun,?_⟩
   have hne:¬xs.toArray.size=1:=by simp at hlen ⊢;omega
   rw [dif_neg hne]
   exact .tup hr.length hr.idx
theorem Run.fin {σ2:AF} (hg:Good cx) {v v':AV} (hv:LW F L σ cx.rs=some v) (hw:∀g x,VR g v x→VR g v' x) (hσ:σ2.le σ) (hK:K v' σ2):Run cx K [] F L σ:=by
 intro items base g lam Pr a w0 w b cs hi hf hb hk
 cases hi
 obtain ⟨x,hx,hvr⟩:=M6 hg.2 hf hv
 refine ⟨x,w,_,.one step_end,hb,⟨rfl,hf.df,hk,cx.fn,by show cx.P.funcs[b.fn]?=_;rw [hb];exact hg.1,hx⟩,v',g,σ2,hw g x hvr,?_,Gh.le_refl g,KP.refl Pr w,hK⟩
 exact (hf.rel.less hσ).grow (AP _) (fun _ _ _=>rfl) (Below.refl _ _) (fun b hp=>⟨(hf.rel.pr b (.inl hp)).1,.inl (.inl hp)⟩)
theorem Run.ret {σ2:AF} (hg:Good cx) {v v':AV} (hv:LW F L σ cx.rs=some v) (hw:∀g x,VR g v x→VR g v' x) (hσ:σ2.le σ) (hK:K v' σ2):Run cx K (.code .ret::k) F L σ:=by
 intro items base g lam Pr a w0 w b cs hi hf hb hk
 obtain ⟨p,ys,rfl,hp,hys⟩:=hi.code
 cases hp
 obtain ⟨x,hx,hvr⟩:=M6 hg.2 hf hv
 refine ⟨x,w,_,.one step_ret,hb,⟨rfl,hf.df,hk,cx.fn,by show cx.P.funcs[b.fn]?=_;rw [hb];exact hg.1,hx⟩,v',g,σ2,hw g x hvr,?_,Gh.le_refl g,KP.refl Pr w,hK⟩
 exact (hf.rel.less hσ).grow (AP _) (fun _ _ _=>rfl) (Below.refl _ _) (fun b hp=>⟨(hf.rel.pr b (.inl hp)).1,.inl (.inl hp)⟩)
def B0 (args:List AV):Fm:=fun s=>args.getD s .undef
theorem AT {args:List AV} {c:C} {code:Code} (hg:Good cx) (hb:cx.fn.body=some code) (hN:cx.fn.ntmps=cx.N) (hl:args.length≤cx.N) (hc:RC cx c code)
 (h:Run cx K [.code c] (B0 args) (fun _=>none) σ):AM cx.P cx.f args σ K:=by
 intro base g Pr w0 w vs hrel hvs cs
 let b:Frame:= { (default:Frame) with fn:=cx.f,kind:= .normal}
 have henter:Frame.enter cx.P cx.f vs.toArray .normal=b.at { tmps:=vs.toArray++Bp (cx.fn.ntmps - vs.toArray.size) BW,defers:=[]} [.code code]:=by
  simp [Frame.enter,Frame.at,hg.1,hb,b]
 have hvl:=hvs.length
 have hf:Ak base g (fun _=>none) Pr cx.N (B0 args) (fun _=>none) σ { tmps:=vs.toArray++Bp (cx.fn.ntmps - vs.toArray.size) BW,defers:=[]} w0 w:=by
  refine ⟨fun s=>?_,by simp;omega,rfl,fun k cs hk=>(by cases hk),fun k k' b hk=>(by cases hk),fun k b hk=>(by cases hk),?_⟩
  · simp only [B0,IK]
    cases hs:args[s]? with
    |none=>exact VR.undef
    |some av=>
     obtain ⟨v,hv,hr⟩:=hvs.at s av hs
     have hlt:=(AL.1 hv).1
     have:(vs.toArray++Bp (cx.fn.ntmps - vs.toArray.size) BW).getD s BW=v:=by
      simp only [BF]
      rw [Array.getElem?_append_left (by simpa using hlt)]
      simp [hv]
     show SV g _ av ((vs.toArray++Bp (cx.fn.ntmps - vs.toArray.size) BW).getD s BW)
     rw [this];exact SV.Bt hr
  · exact hrel.grow (AP _) (fun _ _ _=>rfl) (Below.refl _ _) (fun b hp=>by
     rcases hp with hp|⟨k,hk⟩
     · exact ⟨(hrel.pr b hp).1,.inl hp⟩
     · cases hk)
 obtain ⟨v,w',fr,hs,hfn,hlv,av,g',σ',h1,h2,h3,h4,h5⟩:=h [.code code] base g _ Pr _ w0 w b cs (.Ea hc .nil) hf rfl rfl
 rw [← henter] at hs
 exact ⟨.returned v,w',fr,⟨v,av,g',σ',rfl,h1,h2,h3,h4,h5⟩,hs,hfn,hlv⟩
end Go.Ab
namespace Go.Ab
open Go.RowKit
variable {P:Program} {K:BX} {F:Fm} {L:Lm} {σ:AF} {r:List Q}
def E:Lm:=fun _=>none
def Hh (k:Nat) (o:Option (List AV)) (L:Lm):Lm:=fun s=>if s=k then o else L s
theorem QB (d:Nat) (v:AV) (F:Fm) (s:Nat):put d v F s=if s=d then v else F s:=rfl
theorem Su (d:Nat) (cs:List AV) (L:Lm) (s:Nat):Ba d cs L s=if s=d then some cs else L s:=rfl
theorem Vi (s:Nat):E s=none:=rfl
theorem Vm (s:Nat):U s= .undef:=rfl
theorem SS (F:Fm):Mu [] F=U:=rfl
theorem Qu (k:Nat) (ks:List Nat) (F:Fm):Mu (k::ks) F=put k (F k) (Mu ks F):=by
 funext s
 simp only [Mu,put,BD]
 by_cases h:s=k
 · subst h;simp
 · simp [h]
theorem Qt (L:Lm):Ik [] L=E:=rfl
theorem PB (k:Nat) (ks:List Nat) (L:Lm):Ik (k::ks) L=Hh k (L k) (Ik ks L):=by
 funext s
 simp only [Ik,Hh,BD]
 by_cases h:s=k
 · subst h;simp
 · simp [h]
theorem PU (k:Nat) (cs:List AV) (L:Lm):Hh k (some cs) L=Ba k cs L:=rfl
theorem UC (k:Nat):Hh k none E=E:=by funext s;simp [Hh,E]
theorem PS (k j:Nat) (cs:List AV) (L:Lm):Hh k none (Ba j cs L)=if j=k then Hh k none L else Ba j cs (Hh k none L):=by
 funext s
 by_cases h:j=k
 · subst h
   simp only [if_true,Hh,Ba]
   by_cases h2:s=j<;>simp [h2]
 · simp only [h,if_false,Hh,Ba]
   by_cases h2:s=k
   · have h3:s≠j:=by omega
     rw [if_pos h2,if_neg h3,if_pos h2]
   · rw [if_neg h2]
     by_cases h3:s=j
     · rw [if_pos h3,if_pos h3]
     · rw [if_neg h3,if_neg h3,if_neg h2]
theorem RO (k:Nat) (cs ds:List AV) (L:Lm):Ba k cs (Ba k ds L)=Ba k cs L:=by
 funext s;simp only [Ba];split<;>rfl
theorem WU (F:Fm) (n:Nat):xv F (.t n)=F n:=rfl
theorem WT (F:Fm) (v:AV):xv F (.c v)=v:=rfl
theorem CQ (a:AV):B0 [a]=put 0 a U:=by
 funext s;simp only [B0,put,U];cases s<;>simp
theorem CC (a b:AV):B0 [a,b]=put 0 a (put 1 b U):=by
 funext s;simp only [B0,put,U]
 match s with|0=>rfl|1=>rfl|n+2=>simp
theorem O5 (a b c:AV):B0 [a,b,c]=put 0 a (put 1 b (put 2 c U)):=by
 funext s;simp only [B0,put,U]
 match s with|0=>rfl|1=>rfl|2=>rfl|n+3=>simp
theorem Ut (a b c d:AV):B0 [a,b,c,d]=put 0 a (put 1 b (put 2 c (put 3 d U))):=by
 funext s;simp only [B0,put,U]
 match s with|0=>rfl|1=>rfl|2=>rfl|3=>rfl|n+4=>simp
theorem UB (k:Nat):B4 k U=U:=by funext s;simp [B4,U,AV.BJ]
theorem RN (k d:Nat) (v:AV) (F:Fm):B4 k (put d v F)=put d (if v.BJ k then .undef else v) (B4 k F):=by
 funext s
 simp only [B4,put]
 by_cases h:s=d<;>simp [h]
theorem VK (k:Nat) (x:DV):(AV.d x).BJ k=false:=rfl
theorem RB (k:Nat):AV.A7.BJ k=false:=rfl
theorem S4 (k t e s:Nat) (r:List (List DV)):(AV.own t e s r).BJ k=false:=rfl
theorem Qy (k:Nat) (r:List (List DV)):(AV.clip r).BJ k=false:=rfl
theorem S3 (k:Nat) (r:List AV):(AV.agg r).BJ k=false:=rfl
theorem To (k j o:Nat):(AV.lp j o).BJ k=(j==k):=rfl
theorem Tn (k j o:Nat):(AV.gp j o).BJ k=false:=rfl
theorem Tl (k o:Nat) (r:List DV):(AV.ep r o).BJ k=false:=rfl
theorem RA (k:Nat):AV.CS.BJ k=false:=rfl
theorem Tp (k i n s e:Nat):(AV.ms i n s e).BJ k=false:=rfl
theorem Tq (k:Nat) (i o n s e:Nat):(AV.mv i o n s e).BJ k=false:=rfl
theorem Tk (k:Nat) (t e:Nat) (s:List UInt8):(AV.bp t e s).BJ k=false:=rfl
theorem Qz (k:Nat):AV.Fh.BJ k=false:=rfl
theorem Tm (k:Nat) (f:FuncId) (x y:List AV):(AV.fn f x y).BJ k=false:=rfl
theorem S5 (k:Nat) (x:List AV):(AV.tup x).BJ k=false:=rfl
theorem PF (k:Nat):AV.undef.BJ k=false:=rfl
theorem T6 (x:DV):AV.cells (AV.d x)=[(AV.d x)]:=rfl
theorem Od:AV.cells AV.A7=[AV.A7]:=rfl
theorem QY (t e s:Nat) (r:List (List DV)):AV.cells (AV.own t e s r)=[(AV.own t e s r)]:=rfl
theorem Oa (r:List (List DV)):AV.cells (AV.clip r)=[(AV.clip r)]:=rfl
theorem QX (r:List AV):AV.cells (AV.agg r)=r:=rfl
theorem Ru (j o:Nat):AV.cells (AV.lp j o)=[(AV.lp j o)]:=rfl
theorem Rt (j o:Nat):AV.cells (AV.gp j o)=[(AV.gp j o)]:=rfl
theorem Rr (r:List DV) (o:Nat):AV.cells (AV.ep r o)=[(AV.ep r o)]:=rfl
theorem Oc:AV.cells AV.CS=[AV.CS]:=rfl
theorem Rv (i n s e:Nat):AV.cells (AV.ms i n s e)=[(AV.ms i n s e)]:=rfl
theorem Rw (i o n s e:Nat):AV.cells (AV.mv i o n s e)=[AV.mv i o n s e]:=rfl
theorem Rq (t e:Nat) (s:List UInt8):AV.cells (AV.bp t e s)=[AV.bp t e s]:=rfl
theorem Ob:AV.cells AV.Fh=[AV.Fh]:=rfl
theorem Rs (f:FuncId) (x y:List AV):AV.cells (AV.fn f x y)=[(AV.fn f x y)]:=rfl
theorem QZ (x:List AV):AV.cells (AV.tup x)=[(AV.tup x)]:=rfl
theorem Na:AV.cells AV.undef=[AV.undef]:=rfl
theorem SP (x:DV):AV.BH (AV.d x)=true:=rfl
theorem Nv:AV.BH AV.A7=true:=rfl
theorem Oy (t e s:Nat) (r:List (List DV)):AV.BH (AV.own t e s r)=true:=rfl
theorem Nr (r:List (List DV)):AV.BH (AV.clip r)=true:=rfl
theorem Ox (r:List AV):AV.BH (AV.agg r)=false:=rfl
theorem Qn (j o:Nat):AV.BH (AV.lp j o)=false:=rfl
theorem Ql (j o:Nat):AV.BH (AV.gp j o)=true:=rfl
theorem Qj (r:List DV) (o:Nat):AV.BH (AV.ep r o)=true:=rfl
theorem Nu:AV.BH AV.CS=true:=rfl
theorem Qp (i n s e:Nat):AV.BH (AV.ms i n s e)=true:=rfl
theorem Qq (i o n s e:Nat):AV.BH (AV.mv i o n s e)=true:=rfl
theorem Qi (t e:Nat) (s:List UInt8):AV.BH (AV.bp t e s)=true:=rfl
theorem Nt:AV.BH AV.Fh=true:=rfl
theorem Qk (f:FuncId) (x y:List AV):AV.BH (AV.fn f x y)=true:=rfl
theorem Oz (x:List AV):AV.BH (AV.tup x)=false:=rfl
theorem Mr:AV.BH AV.undef=false:=rfl
theorem VO (x:DV):AV.BC (AV.d x)=true:=rfl
theorem RH:AV.BC AV.A7=true:=rfl
theorem Sd (t e s:Nat) (r:List (List DV)):AV.BC (AV.own t e s r)=true:=rfl
theorem RE (r:List (List DV)):AV.BC (AV.clip r)=true:=rfl
theorem Sc (r:List AV):AV.BC (AV.agg r)=true:=rfl
theorem Tv (j o:Nat):AV.BC (AV.lp j o)=false:=rfl
theorem Tu (j o:Nat):AV.BC (AV.gp j o)=true:=rfl
theorem Ts (r:List DV) (o:Nat):AV.BC (AV.ep r o)=true:=rfl
theorem RG:AV.BC AV.CS=true:=rfl
theorem Tw (i n s e:Nat):AV.BC (AV.ms i n s e)=true:=rfl
theorem Tx (i o n s e:Nat):AV.BC (AV.mv i o n s e)=true:=rfl
theorem Tr (t e:Nat) (s:List UInt8):AV.BC (AV.bp t e s)=true:=rfl
theorem RF:AV.BC AV.Fh=true:=rfl
theorem Tt (f:FuncId) (x y:List AV):AV.BC (AV.fn f x y)=true:=rfl
theorem Se (x:List AV):AV.BC (AV.tup x)=true:=rfl
theorem PH:AV.BC AV.undef=true:=rfl
theorem WQ (x:DV):AV.dv (AV.d x)=some x:=rfl
theorem Te:AV.dv AV.A7=some (.sl []):=rfl
theorem Uy (t e s:Nat) (r:List (List DV)):AV.dv (AV.own t e s r)=some (.sl r):=rfl
theorem Tb (r:List (List DV)):AV.dv (AV.clip r)=some (.sl r):=rfl
theorem Ux (r:List AV):AV.dv (AV.agg r)=none:=rfl
theorem Vt (j o:Nat):AV.dv (AV.lp j o)=none:=rfl
theorem Vs (j o:Nat):AV.dv (AV.gp j o)=none:=rfl
theorem Vq (r:List DV) (o:Nat):AV.dv (AV.ep r o)=none:=rfl
theorem Td:AV.dv AV.CS=some .CS:=rfl
theorem Vv (i o n s e:Nat):AV.dv (AV.mv i o n s e)=none:=rfl
theorem Vp (t e:Nat) (s:List UInt8):AV.dv (AV.bp t e s)=none:=rfl
theorem Tc:AV.dv AV.Fh=none:=rfl
theorem Vu (i n s e:Nat):AV.dv (AV.ms i n s e)=none:=rfl
theorem Vr (f:FuncId) (x y:List AV):AV.dv (AV.fn f x y)=none:=rfl
theorem Uz (x:List AV):AV.dv (AV.tup x)=none:=rfl
theorem SG:AV.dv AV.undef=none:=rfl
theorem RT:AV.rows AV.A7=some []:=rfl
theorem TA (t e s:Nat) (r:List (List DV)):AV.rows (AV.own t e s r)=some r:=rfl
theorem RS (r:List (List DV)):AV.rows (AV.clip r)=some r:=rfl
theorem PX (r:List (List DV)):AV.rows (AV.d (.sl r))=some r:=rfl
theorem Qw:Gk AV.A7=some (.d (.int .i64 0)):=rfl
theorem S0 (t e s:Nat) (r:List (List DV)):Gk (AV.own t e s r)=some (.d (.int .i64 r.length)):=rfl
theorem Qv (r:List (List DV)):Gk (AV.clip r)=some (.d (.int .i64 r.length)):=rfl
theorem Ti (i n s e:Nat):Gk (AV.ms i n s e)=some (.d (.int .i64 n)):=rfl
theorem Tj (i o n s e:Nat):Gk (AV.mv i o n s e)=some (.d (.int .i64 n)):=rfl
theorem VI (r:List (List DV)):Gk (AV.d (.sl r))=some (.d (.int .i64 r.length)):=rfl
theorem Vc:Ai P K [] F L σ=K F L σ:=rfl
theorem Vh (b:Bool) (q:Q) (t:QT):XT P K b (.one q t) F L σ=Ai P (XT P K false t) [q] F L σ:=by cases b<;>rfl
theorem Vg (b:Bool) (q:Q) (t s:QT):XT P K b (.alt q t s) F L σ=(Ai P (XT P K false t) [q] F L σ∧XT P K true s F L σ):=by cases b<;>rfl
theorem Ub:XT P K false .done F L σ=K F L σ:=rfl
theorem Uc:XT P K true .done F L σ=True:=rfl
theorem TW (v:AV) (d:Nat):XPv (some v) (some d) K F L σ=K (put d v F) L σ:=rfl
theorem WM (d:Nat) (x:X):Ai P K (⟨some d,.mv x,none⟩::r) F L σ=Ai P K r (put d (xv F x) F) L σ:=rfl
theorem U6 (d:Option Nat) (x y z:X):Ai P K (⟨d,.pick x y z,none⟩::r) F L σ=XPv (OC (xv F x) (xv F y) (xv F z)) d (Ai P K r) F L σ:=rfl
theorem V5 (d:Option Nat) (x:X) (o:Nat):Ai P K (⟨d,.fld x o,none⟩::r) F L σ=XPv (Oq (xv F x) o) d (Ai P K r) F L σ:=rfl
theorem WK (d:Option Nat) (x:X) (n:Option Nat):Ai P K (⟨d,.ld x n,none⟩::r) F L σ=XPv (ldA L σ (xv F x) n) d (Ai P K r) F L σ:=rfl
theorem WJ (d:Option Nat) (x y:X) (n:Nat):Ai P K (⟨d,.ix x y n,none⟩::r) F L σ=XPv (ixA (xv F x) (xv F y) n) d (Ai P K r) F L σ:=rfl
theorem U8 (d:Option Nat) (x y:X):Ai P K (⟨d,.TD x y,none⟩::r) F L σ=XPv (OL (xv F x) (xv F y)) d (Ai P K r) F L σ:=rfl
theorem V7 (d:Option Nat) (x:X):Ai P K (⟨d,.len x,none⟩::r) F L σ=XPv (Gk (xv F x)) d (Ai P K r) F L σ:=rfl
theorem U9 (d:Option Nat) (x:X):Ai P K (⟨d,.P1 x,none⟩::r) F L σ=XPv (M7 (xv F x)) d (Ai P K r) F L σ:=rfl
theorem V0 (d:Option Nat) (op:BinOp) (x y:X):Ai P K (⟨d,.bin op x y,none⟩::r) F L σ=XPv (QO op (xv F x) (xv F y)) d (Ai P K r) F L σ:=rfl
theorem U0 (d:Option Nat) (op:BinOp) (x y:X):Ai P K (⟨d,.N2 op x y,none⟩::r) F L σ=XPv (MM op (xv F x) (xv F y)) d (Ai P K r) F L σ:=rfl
theorem WO (d:Option Nat) (op:UnOp) (x:X):Ai P K (⟨d,.un op x,none⟩::r) F L σ=XPv (unA op (xv F x)) d (Ai P K r) F L σ:=rfl
theorem U5 (d:Option Nat) (k:IntKind) (x:X):Ai P K (⟨d,.conv k x,none⟩::r) F L σ=XPv (MT k (xv F x)) d (Ai P K r) F L σ:=rfl
theorem V1 (d:Option Nat) (z:List AV) (ps:List (Nat×Nat×X)):Ai P K (⟨d,.bld z ps,none⟩::r) F L σ=XPv ((D7 z F ps).map .agg) d (Ai P K r) F L σ:=rfl
theorem V3 (d:Option Nat) (s n:Nat) (z:List AV) (ps:List (Nat×Nat×X)):Ai P K (⟨d,.bsl s n z ps,none⟩::r) F L σ=XPv (((D7 z F ps).bind dvs).map fun l=>.d (.sl (chunk s n l))) d (Ai P K r) F L σ:=rfl
theorem V8 (d:Option Nat) (f:FuncId) (x y:List X):Ai P K (⟨d,.mkf f x y,none⟩::r) F L σ=XPv (if (xvs F x++xvs F y).all AV.BC then some (.fn f (xvs F x) (xvs F y)) else none) d (Ai P K r) F L σ:=rfl
theorem V4 (d:Option Nat) (x:X) (i:Nat):Ai P K (⟨d,.ext x i,none⟩::r) F L σ=XPv (Q8 (xv F x) i) d (Ai P K r) F L σ:=rfl
theorem Vb (d:Option Nat) (x:X):Ai P K (⟨d,.nck x,none⟩::r) F L σ=XPv (S9 (xv F x)) d (Ai P K r) F L σ:=rfl
theorem WL (d:Option Nat) (b:Bool) (x y:X):Ai P K (⟨d,.mm b x y,none⟩::r) F L σ=XPv (mmA b (xv F x) (xv F y)) d (Ai P K r) F L σ:=rfl
theorem V2 (d:Nat) (x:X):Ai P K (⟨some d,.box x false,none⟩::r) F L σ=(AS (xv F x).cells=true∧Ai P K r (put d (.lp d 0) (B4 d F)) (Ba d (xv F x).cells L) σ):=rfl
theorem WC (d:Nat) (z:List AV):Ai P K (⟨some d,.al z false,none⟩::r) F L σ=(AS z=true∧Ai P K r (put d (.lp d 0) (B4 d F)) (Ba d z L) σ):=rfl
theorem U1 (d:Nat) (x:X):Ai P K (⟨some d,.box x true,none⟩::r) F L σ=(AS (xv F x).cells=true∧∀i,σ.blk i=none→Ai P K r (put d (.gp i 0) F) L (σ.AX i (xv F x).cells)):=rfl
theorem VY (d:Nat) (z:List AV):Ai P K (⟨some d,.al z true,none⟩::r) F L σ=(AS z=true∧∀i,σ.blk i=none→Ai P K r (put d (.gp i 0) F) L (σ.AX i z)):=rfl
def Up (K:BX) (F:Fm):Option (Lm×AF)→Prop
 |some (L',σ')=>K F L' σ'
 |none=>False
theorem TX (F:Fm) (L':Lm) (σ':AF):Up K F (some (L',σ'))=K F L' σ':=rfl
theorem WN (x v:X) (n:Nat):Ai P K (⟨none,.st x v n,none⟩::r) F L σ=(AS (xv F v).cells=true∧(xv F v).cells.length=n∧Up (Ai P K r) F (stA L σ (xv F v).cells (xv F x))):=by
 show XSt _ _ _ _ _ _ _ _=_
 unfold XSt Up
 simp only [true_and]
 cases stA L σ (xv F v).cells (xv F x)<;>rfl
theorem WG (d:Option Nat) (o:O) (s:Nat) (want:Bool):Ai P K (⟨d,o,some (s,want)⟩::r) F L σ=XG (gdV want (F s)) (Ai P K (⟨d,o,none⟩::r) F L σ) (Ai P K r (AY d (.tup []) F) L σ):=rfl
theorem WI (d:Option Nat) (o:O) (s:Nat) (want:Bool) (h:gdV want (F s)=some true):Ai P K (⟨d,o,some (s,want)⟩::r) F L σ=Ai P K (⟨d,o,none⟩::r) F L σ:=by rw [WG,h];rfl
theorem WH (d:Option Nat) (o:O) (s:Nat) (want:Bool) (h:gdV want (F s)=some false):Ai P K (⟨d,o,some (s,want)⟩::r) F L σ=Ai P K r (AY d (.tup []) F) L σ:=by rw [WG,h];rfl
theorem Vw (want b:Bool):gdV want (.d (.bool b))=some (b==want):=rfl
theorem Vx (want:Bool):gdV want (.tup [])=some false:=rfl
theorem RP (d:Nat) (v:AV) (F:Fm):AY (some d) v F=put d v F:=rfl
theorem U4 (d:Option Nat) (f:FuncId) (args:List X):Ai P K (⟨d,.call f args,none⟩::r) F L σ=AK P f (xvs F args) d (Ai P K r) F L σ:=rfl
theorem TV (d:Option Nat) (f:FuncId) (args:List X):Ai P K (⟨d,.Jo f args,none⟩::r) F L σ=K0 P f (xvs F args) d (Ai P K r) F L σ:=rfl
theorem VZ (d:Option Nat) (e s b:Nat) (x y:X):Ai P K (⟨d,.app e s b x y,none⟩::r) F L σ=F9 e s b (xv F x) (xv F y) d (Ai P K r) F L σ:=rfl
def Uj (P:Program) (x:AV) (args:List AV) (dst:Option Nat) (K:BX) (F:Fm) (L:Lm) (σ:AF):Prop:=
 ∃f first caps,x= .fn f first caps∧KU P f=true∧AK P f (first++args++caps) dst K F L σ
theorem TU (d:Option Nat) (x:X) (args:List X):Ai P K (⟨d,.G7 x args,none⟩::r) F L σ=Uj P (xv F x) (xvs F args) d (Ai P K r) F L σ:=rfl
theorem Va (d:Option Nat) (e s b:Nat) (z:List AV) (x y:X):Ai P K (⟨d,.msl e s b z x y,none⟩::r) F L σ=NW e s b z (xv F x) (xv F y) d (Ai P K r) F L σ:=rfl
theorem UZ (d:Option Nat) (e s b:Nat) (x y:X):Ai P K (⟨d,.Jz e s b x y,none⟩::r) F L σ=El e s b (xv F x) (xv F y) d (Ai P K r) F L σ:=rfl
theorem Vf (d:Option Nat) (x y:X):Ai P K (⟨d,.trn x y,none⟩::r) F L σ=Uq (xv F x) (xv F y) d (Ai P K r) F L σ:=rfl
theorem U3 (d:Option Nat) (e s n:Nat) (z:List AV) (ps:List (Nat×Nat×X)):Ai P K (⟨d,.K6 e s n z ps,none⟩::r) F L σ=IL e s n (D7 z F ps) d (Ai P K r) F L σ:=rfl
theorem V6 (d:Option Nat) (x:X) (n:Option Nat):Ai P K (⟨d,.ldl x n,none⟩::r) F L σ=XPv (Mx L (xv F x) n) d (Ai P K r) F L σ:=rfl
theorem WE (d:Option Nat) (x:X) (o:Nat) (n:Option Nat):Ai P K (⟨d,.fd x o n,none⟩::r) F L σ=XPv (fdA (xv F x) o n) d (Ai P K r) F L σ:=rfl
theorem Ve (d:Option Nat) (x:X) (a b:Option X):Ai P K (⟨d,.ssl x a b,none⟩::r) F L σ=XPv (TI (xv F x) (a.map (xv F)) (b.map (xv F))) d (Ai P K r) F L σ:=rfl
theorem Vd (d:Option Nat) (x:X) (a b c:Option X) (n:Nat):Ai P K (⟨d,.sls x a b c n,none⟩::r) F L σ=XPv (R0 (xv F x) (a.map (xv F)) (b.map (xv F)) (c.map (xv F)) n) d (Ai P K r) F L σ:=rfl
theorem U7 (d:Option Nat) (ne:Bool) (x:X):Ai P K (⟨d,.PO ne x,none⟩::r) F L σ=XPv (M3 ne (xv F x)) d (Ai P K r) F L σ:=rfl
theorem Ua (d:Option Nat) (ne:Bool) (n:Nat) (x y:X):Ai P K (⟨d,.OM ne n x y,none⟩::r) F L σ=XPv (M8 ne n (xv F x) (xv F y)) d (Ai P K r) F L σ:=rfl
theorem V9 (d:Option Nat) (b:Bool) (x y z:X):Ai P K (⟨d,.mm3 b x y z,none⟩::r) F L σ=XPv ((mmA b (xv F x) (xv F y)).bind fun v=>mmA b v (xv F z)) d (Ai P K r) F L σ:=rfl
theorem U2 (d:Option Nat) (x:X):Ai P K (⟨d,.Ro x,none⟩::r) F L σ=XPv ((dvs (xv F x).cells).map fun ds=>.d (.ptr ds)) d (Ai P K r) F L σ:=rfl
theorem WD (d:Option Nat) (k:EK) (xs:List X):Ai P K (⟨d,.ex k xs,none⟩::r) F L σ=XEx k (xvs F xs) d (Ai P K r) F L σ:=rfl
theorem UW (d:Option Nat) (args:List AV):XEx .cap args d K F L σ=XPv (exP .cap args) d K F L σ:=rfl
theorem UU (d:Option Nat) (args:List AV):XEx .b2s args d K F L σ=XPv (exP .b2s args) d K F L σ:=rfl
theorem UX (d:Option Nat) (n:Nat) (args:List AV):XEx (.shr n) args d K F L σ=XPv (exP (.shr n) args) d K F L σ:=rfl
theorem Ra (d:Option Nat) (args:List AV):XEx .IM args d K F L σ=XPv (exP .IM args) d K F L σ:=rfl
theorem UY (d:Option Nat) (args:List AV):XEx .usd args d K F L σ=XPv (exP .usd args) d K F L σ:=rfl
theorem UT (d:Nat) (t:Nat) (z:List AV):XEx (.alt t z) [] (some d) K F L σ=(AS z=true∧∀i,(σ.blk i=none∧σ.bt i=none)→K (put d (.gp i 0) F) L ((σ.AX i z).E0 i (z.length,t))):=by
 simp only [XEx,EK.pure,A4,if_false,Cq,true_and,ExR,AY]
theorem XEx.QR {d:Nat} {t n:Nat} {v:AV} (hn:v.BC=true) (h1:AS v.cells=true) (h2:v.cells.length=n) (h:∀i,(σ.blk i=none∧σ.bt i=none)→K (put d (.gp i 0) F) L ((σ.AX i v.cells).E0 i (n,t))):XEx (.QR t n) [v] (some d) K F L σ:=by
 refine ⟨by simp [hn],?_⟩
 exact ⟨⟨h1,h2⟩,h⟩
theorem XEx.L7 {d:Nat} {ne b:Bool} {v:AV} (hn:v.BC=true) (hv:NA v=some b) (h:K (put d (.d (.bool (b != ne))) F) L σ):XEx (.L7 ne) [v] (some d) K F L σ:=by
 refine ⟨by simp [hn],?_⟩
 show (match NA v with|some b=>_|none=>_)
 rw [hv];exact h
theorem XEx.TG {d:Nat} {ne:Bool} {v:AV} (hn:v.BC=true) (hr:v.rows=some []) (h:∀b,K (put d (.d (.bool b)) F) L σ):XEx (.L7 ne) [v] (some d) K F L σ:=by
 refine ⟨by simp [hn],?_⟩
 show (match NA v with|some b=>_|none=>_)
 cases NA v with
 |some b=>exact h _
 |none=>exact ⟨hr,h⟩
theorem XEx.apps {d:Option Nat} {e:Nat} {s:AV} {x:List UInt8} {rows:List (List DV)} {σ1:AF} (hn:s.BC=true) (ha:Jy σ e 1 s=some (rows,σ1)) (hl:rows.length+x.length≤140737488355328)
 (h:∀t,σ.tok t=false→K (AY d (.own t e 1 (rows++A3 x)) F) L (σ1.CX t)):XEx (.apps e) [s,.d (.str x)] d K F L σ:=
 ⟨by rw [Ar,hn];rfl,rows,σ1,ha,hl,h⟩
theorem XEx.N0 {d:Option Nat} {e size bytes:Nat} {z:List AV} {k:IntKind} {n:Nat} (h0:0 < n) (hb:bytes≤10000) (hn:n≤1000000000)
 (h:∀j,σ.blk j=none→K (AY d (.ms j n size e) F) L (σ.AX j (AH n z).flatten)):XEx (.N0 e size bytes z) [.A7,.d (.int k n)] d K F L σ:=by
 refine ⟨rfl,by omega,?_,by omega,?_⟩
 · have h1:n * bytes≤1000000000 * 10000:=ED hn hb
   have h2:((n * bytes:Nat):Int)≤((1000000000 * 10000:Nat):Int):=Int.ofNat_le.2 h1
   rw [Int.natCast_mul] at h2
   exact Int.le_trans h2 (by decide)
 · simpa using h
theorem XEx.OR {d:Option Nat} {e t:Nat} {s:List UInt8} {n:Int} (hl:n=s.length) (h0:s≠[]) (ht:σ.tok t=true) (h:K (AY d (.d (.str s)) F) L (σ.Cv t)):XEx (.OR e) [.bp t e s,.d (.int .i64 n)] d K F L σ:=
 ⟨rfl,⟨rfl,hl⟩,h0,ht,h⟩
theorem El.emp {d:Option Nat} {e size bytes n:Nat} {s x:AV} {cs:List AV} {σ1:AF} (h1:Em σ e size s=some (n,cs,σ1)) (h2:x.rows=some []) (h5:n≤1000000000) (hb:bytes≤10000)
 (h:K (AY d s F) L σ):El e size bytes s x d K F L σ:=
 ⟨n,cs,σ1,[],h1,h2,by simp,fun _=>h,by simp only [maxLen,B7];omega,by
   calc (n+0) * bytes≤1000000000 * 10000:=ED h5 hb
    _≤140737488355328:=by decide,fun e=>absurd rfl e⟩
theorem El.mk {d:Option Nat} {e size bytes n:Nat} {s x:AV} {cs:List AV} {srows:List (List DV)} {σ1:AF} (h1:Em σ e size s=some (n,cs,σ1)) (h2:x.rows=some srows)
 (h3:∀r∈srows,r.length=size) (h4:srows≠[]) (h5:n+srows.length≤1000000000) (hb:bytes≤10000)
 (h:∀j,σ.blk j=none→K (AY d (.ms j (n+srows.length) size e) F) L (σ1.AX j (cs++C0 srows))):El e size bytes s x d K F L σ:=
 ⟨n,cs,σ1,srows,h1,h2,h3,fun e=>absurd e h4,by simp only [maxLen];omega,by
   calc (n+srows.length) * bytes≤1000000000 * 10000:=ED h5 hb
    _≤140737488355328:=by decide,fun _=>h⟩
theorem IL.mk {d:Option Nat} {e s n:Nat} {cs:List AV} (h:∀j,σ.blk j=none→K (AY d (.ms j n s e) F) L (σ.AX j cs)):IL e s n (some cs) d K F L σ:=⟨cs,rfl,.inl h⟩
theorem IL.own {d:Option Nat} {e s n:Nat} {cs:List AV} {ds:List DV} (hd:dvs cs=some ds) (hn:0 < n) (h:∀t,σ.tok t=false→K (AY d (.own t e s (chunk s n ds)) F) L (σ.CX t)):IL e s n (some cs) d K F L σ:=⟨cs,rfl,.inr ⟨ds,hd,hn,h⟩⟩
theorem T5 (n:Nat):N3 n none none=some (0,n):=by simp [N3]
theorem NW.mk {d:Option Nat} {e s b:Nat} {z:List AV} (n:Nat) (hb:b * n≤281474976710656) (hn:n≤9223372036854775807) (h:∀i,σ.blk i=none→K (AY d (.ms i n s e) F) L (σ.AX i (AH n z).flatten)):
 NW e s b z (.d (.int .i64 n)) (.d (.int .i64 n)) d K F L σ:=
 ⟨.i64,.i64,n,rfl,rfl,by omega,by rw [← Int.natCast_mul];omega,by omega,fun i hi=>by simpa using h i hi⟩
theorem AK.mk {d:Option Nat} {f:FuncId} {args:List AV} {Q:AV→AF→Prop} (hn:args.all AV.BC=true) (h:AM P f args σ Q) (hk:∀v σ',Q v σ'→K (AY d v F) L σ'):
 AK P f args d K F L σ:=⟨hn,Q,h,hk⟩
theorem K0.mk {d:Option Nat} {f:FuncId} {args:List AV} {v:AV} (hn:args.all AV.BC=true) (h:AM P f args σ (fun v' σ'=>v'=v∧σ'=σ)) (hk:K (AY d v F) L σ) (hv:v.BC=true:=by rfl):
 K0 P f args d K F L σ:=⟨hn,v,⟨hv,h⟩,hk⟩
theorem F9.mk {d:Option Nat} {e size bytes:Nat} {s x:AV} {rows srows:List (List DV)} {σ1:AF} (h1:Jy σ e size s=some (rows,σ1)) (h2:x.rows=some srows)
 (h3:∀r∈srows,r.length=size) (h4:rows.length+srows.length≤maxLen) (h5:(rows.length+srows.length) * bytes≤140737488355328)
 (h:∀t,σ.tok t=false→K (AY d (.own t e size (rows++srows)) F) L (σ1.CX t)):F9 e size bytes s x d K F L σ:= .inl ⟨rows,σ1,srows,h1,h2,h3,h4,h5,h⟩
theorem F9.clip {d:Option Nat} {e size bytes:Nat} {x:AV} {rows srows:List (List DV)} (h2:x.rows=some srows)
 (h3:∀r∈rows,r.length=size) (h3':∀r∈srows,r.length=size) (h4:rows.length+srows.length≤1000000000) (hb:bytes≤10000)
 (h:K (AY d (.d (.sl (rows++srows))) F) L σ):F9 e size bytes (.clip rows) x d K F L σ:=
 .inr ⟨rows,srows,rfl,h2,h3,h3',by simp only [maxLen];omega,by
  calc (rows.length+srows.length) * bytes≤1000000000 * 10000:=ED h4 hb
   _≤140737488355328:=by decide,h⟩
theorem AM.args {f:FuncId} {args args':List AV} {Q:AV→AF→Prop} (h:AM P f args' σ Q) (hw:∀g vs,VRs g args vs→VRs g args' vs):AM P f args σ Q:=
 fun base g Pr w0 w vs hr hv=>h base g Pr w0 w vs hr (hw g vs hv)
def Cut (live:List Nat) (F0:Fm) (L0:Lm) (σ0:AF):BX:=fun F L σ=>Mu live F=F0∧Ik live L=L0∧σ=σ0
theorem P5 {P:Program} {m m1 m':Machine} (h:step P m= .next m1) (hs:Steps P m m') (hne:m≠m'):Steps P m1 m':=by
 obtain ⟨n,hn⟩:=hs
 cases n with
 |zero=>simp only [runN] at hn;cases hn;exact absurd rfl hne
 |succ n=>simp only [runN,h] at hn;exact ⟨n,hn⟩
theorem Run.DR {cx:Cx} {KK:AV→AF→Prop} {k:List CI} {c:C} (h:Run cx KK (.again c::k) F L σ):Run cx KK (.code (.loop c)::k) F L σ:=by
 intro items base g lam Pr a w0 w b cs hi hf hb hk
 obtain ⟨p,ys,rfl,⟨p1,rfl,h1⟩,hys⟩:=hi.code
 obtain ⟨v,w',fr,hs,hfn,hl,rest⟩:=h (.inLoop p1::ys) base g lam Pr a w0 w b cs (.cons ⟨p1,rfl,h1⟩ hys) hf hb hk
 refine ⟨v,w',fr,.head step_loop (P5 step_inLoop hs fun e=>?_),hfn,hl,rest⟩
 have h2:(lone (b.at a (.inLoop p1::ys)) cs w).gs=(lone fr cs w').gs:=by rw [e]
 simp only [lone,Array.mk.injEq,HQ,Goroutine.mk.injEq] at h2
 have h3:(b.at a (.inLoop p1::ys)).mode=fr.mode:=by rw [h2.1.1]
 rw [hl.1] at h3
 cases h3
def ML (v:AV) (A B:Prop):Prop:=
 match v with
 | .d (.bool b)=>(b=true→A)∧(b=false→B)
 |_=>False
theorem UQ (b:Bool) (A B:Prop):ML (.d (.bool b)) A B=((b=true→A)∧(b=false→B)):=rfl
theorem US (A B:Prop):ML (.d (.bool true)) A B=A:=by simp [ML]
theorem UR (A B:Prop):ML (.d (.bool false)) A B=B:=by simp [ML]
theorem Run.AN {cx:Cx} {KK:AV→AF→Prop} {k:List CI} {x:X} {t e:C} (h:ML (xv F x) (Run cx KK (.code t::k) F L σ) (Run cx KK (.code e::k) F L σ)):Run cx KK (.code (.cond x t e)::k) F L σ:=by
 cases hx:xv F x<;>rw [hx] at h<;>try exact h.elim
 rename_i dv
 cases dv<;>try exact h.elim
 exact Run.cond hx h.1 h.2
mutual
def AV.plain:AV→AV
 | .A7=>.d (.sl [])
 | .CS=>.d .CS
 | .own _ _ _ rows=>.d (.sl rows)
 | .clip rows=>.d (.sl rows)
 | .agg cs=>.agg (AV.DI cs)
 | .tup vs=>.tup (AV.DI vs)
 |v=>v
def AV.DI:List AV→List AV
 |[]=>[]
 |v::l=>AV.plain v::AV.DI l
end
theorem Tz (x:DV):AV.plain (AV.d x)=(AV.d x):=by simp only [AV.plain]
theorem Hw:AV.plain AV.A7= .d (.sl []):=by simp only [AV.plain]
theorem RK (t e s:Nat) (r:List (List DV)):AV.plain (AV.own t e s r)= .d (.sl r):=by simp only [AV.plain]
theorem PL (r:List (List DV)):AV.plain (AV.clip r)= .d (.sl r):=by simp only [AV.plain]
theorem RJ (r:List AV):AV.plain (AV.agg r)= .agg (AV.DI r):=by simp only [AV.plain]
theorem Sj (j o:Nat):AV.plain (AV.lp j o)=(AV.lp j o):=by simp only [AV.plain]
theorem Si (j o:Nat):AV.plain (AV.gp j o)=(AV.gp j o):=by simp only [AV.plain]
theorem Sh (r:List DV) (o:Nat):AV.plain (AV.ep r o)=(AV.ep r o):=by simp only [AV.plain]
theorem PN:AV.plain AV.CS= .d .CS:=by simp only [AV.plain]
theorem Sk (i n s e:Nat):AV.plain (AV.ms i n s e)=(AV.ms i n s e):=by simp only [AV.plain]
theorem Sl (i o n s e:Nat):AV.plain (AV.mv i o n s e)=(AV.mv i o n s e):=by simp only [AV.plain]
theorem Sg (t e:Nat) (s:List UInt8):AV.plain (AV.bp t e s)=(AV.bp t e s):=by simp only [AV.plain]
theorem PM:AV.plain AV.Fh=AV.Fh:=by simp only [AV.plain]
theorem plain_fn (f:FuncId) (x y:List AV):AV.plain (AV.fn f x y)=(AV.fn f x y):=by simp only [AV.plain]
theorem RL (x:List AV):AV.plain (AV.tup x)= .tup (AV.DI x):=by simp only [AV.plain]
theorem OE:AV.plain AV.undef=AV.undef:=by simp only [AV.plain]
theorem GF:∀(l:List AV) (i:Nat),(AV.DI l)[i]?=(l[i]?).map AV.plain
 |[],i=>by simp [AV.DI]
 |v::l,0=>by simp [AV.DI]
 |v::l,i+1=>by simp [AV.DI,GF l i]
theorem Hy:∀l:List AV,(AV.DI l).length=l.length
 |[]=>rfl
 |v::l=>by simp [AV.DI,Hy l]
theorem PK {v:AV} (h:v.BH=true):v.plain.BH=true:=by cases v<;>first|rfl|(cases h;done)
theorem VR.plain {g:Gh} {x:AV} {v:Value} (h:VR g x v):VR g x.plain v:=by
 induction h with
 |d h=>simpa [AV.plain] using VR.d h
 |A7=>exact .d (.nil (BM _) (fun _=>rfl))
 |own h _ _=>exact .d h
 |clip h=>exact .d h
 |@agg cs vs hl hc _ ih=>
  refine .agg (by rw [Hy];exact hl) (fun c hcm=>?_) (fun i c v hci hvi=>?_)
  · obtain ⟨i,hi,rfl⟩:=B5 hcm
    have:=GF cs i
    rw [AZ hi] at this
    cases hcs:cs[i]? with
    |none=>rw [hcs] at this;cases this
    |some c'=>rw [hcs] at this;simp only [Ax,AD] at this;rw [this];exact PK (hc c' (BA hcs))
  · rw [GF] at hci
    cases hcs:cs[i]? with
    |none=>rw [hcs] at hci;cases hci
    |some c'=>rw [hcs] at hci;simp only [Ax,AD] at hci;rw [← hci];exact ih i c' v hcs hvi
 |gp h=>simpa [AV.plain] using VR.gp h
 |ep hi hr=>simpa [AV.plain] using VR.ep hi hr
 |CS=>exact .d .CS
 |Fh=>simpa [AV.plain] using VR.Fh
 |ms h hr hn hm=>simpa [AV.plain] using VR.ms h hr hn hm
 |mv h hr hn hm ho=>simpa [AV.plain] using VR.mv h hr hn hm ho
 |bp h k=>simpa [AV.plain] using VR.bp h k
 |fn hl hl' h h' _ _=>simpa [AV.plain] using VR.fn hl hl' h h'
 |@tup cs vs hl _ ih=>
  refine .tup (by rw [Hy];exact hl) (fun i c v hci hvi=>?_)
  rw [GF] at hci
  cases hcs:cs[i]? with
  |none=>rw [hcs] at hci;cases hci
  |some c'=>rw [hcs] at hci;simp only [Ax,AD] at hci;rw [← hci];exact ih i c' v hcs hvi
 |undef=>simpa [AV.plain] using VR.undef
theorem VRs.plain {g:Gh} {xs:List AV} {vs:List Value} (h:VRs g xs vs):VRs g (AV.DI xs) vs:=by
 induction h with
 |nil=>exact .nil
 |cons h _ ih=>exact .cons h.plain ih
theorem AM.plain {f:FuncId} {args:List AV} {Q:AV→AF→Prop} (h:AM P f (AV.DI args) σ Q):AM P f args σ Q:=
 fun base g Pr w0 w vs hr hv=>h base g Pr w0 w vs hr hv.plain
def T0 (o:Option AV) (K:AV→AF→Prop) (σ:AF):Prop:=
 match o with
 |some v=>K v σ
 |none=>False
theorem Rc (v:AV) (K:AV→AF→Prop) (σ:AF):T0 (some v) K σ=K v σ:=rfl
theorem Run.Aj {cx:Cx} {KK:AV→AF→Prop} {k:List CI} {σ2:AF} (hg:Good cx) (hσ:σ2.le σ) (h:T0 ((LW F L σ cx.rs).map AV.plain) KK σ2):Run cx KK (.code .ret::k) F L σ:=by
 cases hr:LW F L σ cx.rs with
 |none=>rw [hr] at h;exact h.elim
 |some v=>rw [hr] at h;exact Run.ret hg hr (fun _ _ h=>h.plain) hσ h
theorem Run.MA {cx:Cx} {KK:AV→AF→Prop} {k:List CI} {σ2:AF} (hg:Good cx) (hσ:σ2.le σ) (h:T0 (LW F L σ cx.rs) KK σ2):Run cx KK (.code .ret::k) F L σ:=by
 cases hr:LW F L σ cx.rs with
 |none=>rw [hr] at h;exact h.elim
 |some v=>rw [hr] at h;exact Run.ret hg hr (fun _ _ h=>h) hσ h
theorem Af (σ:AF) (i j:Nat) (cs:List AV):(σ.AX i cs).blk j=if j=i then some cs else σ.blk j:=rfl
theorem D4 (σ:AF) (i:Nat) (cs ds:List AV):(σ.AX i cs).AX i ds=σ.AX i ds:=by
 unfold AF.AX
 congr 1
 funext j
 by_cases h:j=i<;>simp [h]
theorem Ho (σ:AF) (t i:Nat):(σ.CX t).blk i=σ.blk i:=rfl
theorem Om (σ:AF) (t i:Nat):(σ.Cv t).blk i=σ.blk i:=rfl
theorem AF.le_trans {a b c:AF} (h:a.le b) (k:b.le c):a.le c:=⟨fun i cs x=>k.blk i cs (h.blk i cs x),fun t x=>k.tok t (h.tok t x),h.gt.trans k.gt,fun i x hx=>k.bt i x (h.bt i x hx)⟩
theorem JQ {σ:AF} {i:Nat} {cs:List AV} (h:σ.blk i=none):σ.le (σ.AX i cs):=
 ⟨fun j ds hj=>by
   have:j≠i:=fun e=>by rw [e,h] at hj;cases hj
   rw [Af,if_neg this];exact hj,fun _ h=>h,rfl,fun _ _ h=>h⟩
structure Ft (σ:AF) (e s:Nat) (rows:List (List DV)) (v:AV) (σ':AF):Prop where
 app:∃σ1,Jy σ' e s v=some (rows,σ1)∧σ.le σ1
 le:σ.le σ'
 plain:v.plain= .d (.sl rows)
 len:Gk v=some (.d (.int .i64 rows.length))
 cell:v.BH=true
 BC:v.BC=true
 BJ:∀k,v.BJ k=false
 dv:v.dv=some (.sl rows)
 cells:v.cells=[v]
theorem Ft.nil (σ:AF) (e s:Nat):Ft σ e s [] .A7 σ:=
 ⟨⟨σ,rfl,AF.le_refl σ⟩,AF.le_refl σ,rfl,rfl,rfl,rfl,fun _=>rfl,rfl,rfl⟩
theorem Ft.own {σ σ1 σ':AF} {e s t:Nat} {rows:List (List DV)} (hle:σ.le σ1) (hle':σ.le σ') (ht:σ'.tok t=false):Ft σ e s rows (.own t e s rows) (σ1.CX t):=by
 have hnt:σ.tok t=false:=by
  cases h:σ.tok t with
  |false=>rfl
  |true=>rw [hle'.tok t h] at ht;cases ht
 refine ⟨⟨(σ1.CX t).Cv t,by simp [Jy,AF.CX],⟨fun i cs h=>hle.blk i cs h,fun t' h=>?_,hle.gt,hle.bt⟩⟩,⟨fun i cs h=>hle.blk i cs h,fun t' h=>?_,hle.gt,hle.bt⟩,rfl,rfl,rfl,rfl,fun _=>rfl,rfl,rfl⟩
 · have hne:t'≠t:=fun e=>by rw [e,hnt] at h;cases h
   simp [AF.Cv,AF.CX,hne,hle.tok t' h]
 · have hne:t'≠t:=fun e=>by rw [e,hnt] at h;cases h
   simp [AF.CX,hne,hle.tok t' h]
theorem F9.own {σ0:AF} {d:Option Nat} {e size bytes:Nat} {s x:AV} {rows srows:List (List DV)} (ho:Ft σ0 e size rows s σ) (h2:x.rows=some srows)
 (h3:∀r∈srows,r.length=size) (h4:rows.length+srows.length≤1000000000) (hb:bytes≤10000)
 (h:∀v σ',Ft σ0 e size (rows++srows) v σ'→(∀i,σ'.blk i=σ.blk i)→K (AY d v F) L σ'):F9 e size bytes s x d K F L σ:=by
 obtain ⟨σ1,ha,hl⟩:=ho.app
 refine F9.mk ha h2 h3 (by simp only [maxLen];omega) ?_ (fun t ht=>h _ _ (Ft.own hl ho.le ht) (fun i=>?_))
 · calc (rows.length+srows.length) * bytes≤1000000000 * 10000:=ED h4 hb
    _≤140737488355328:=by decide
 · rw [Ho]
   unfold Jy at ha
   split at ha
   · cases ha;rfl
   · split at ha
     · cases ha;rfl
     · cases ha
   · cases ha
variable {cx:Cx} {KK:AV→AF→Prop} {k:List CI}
theorem Run.facts {p:Prop} (hp:∀base g lam Pr a w0 w,Ak base g lam Pr cx.N F L σ a w0 w→p) (h:p→Run cx KK k F L σ):Run cx KK k F L σ:=
 fun items base g lam Pr a w0 w b cs hi hf hb hk=>h (hp base g lam Pr a w0 w hf) items base g lam Pr a w0 w b cs hi hf hb hk
def AV.Il:AV→Prop
 | .d (.sl rows)=>rows.length≤9223372036854775807
 | .d (.str s)=>s.length≤9223372036854775807
 | .d (.int k n)=>k.min≤n∧n≤k.max
 | .own _ _ _ rows=>rows.length≤9223372036854775807
 | .clip rows=>rows.length≤9223372036854775807
 |_=>True
theorem VR.Il {g:Gh} {x:AV} {v:Value} (h:VR g x v):x.Il:=by
 cases h with
 |d h=>
  cases h with
  |int h=>exact h
  |bool=>trivial
  |str h=>exact h
  |nil=>simp [AV.Il]
  |sl hc hm _ _ _=>exact Aa hc hm
  |ptr=>trivial
  |CS=>trivial
 |own h _ _=>obtain ⟨_,_,_,h2⟩:=h.EX;exact h2
 |clip h=>obtain ⟨_,_,_,h2⟩:=h.EX;exact h2
 |_=>trivial
theorem SV.Il {g:Gh} {lam:Nat→Option Nat} {x:AV} {v:Value} (h:SV g lam x v):x.Il:=by
 cases x<;>first|exact VR.Il h|trivial
theorem Run.cell (j o:Nat) {cs:List AV} {c:AV} (hL:L j=some cs) (hc:cs[o]?=some c) (h:c.Il→Run cx KK k F L σ):Run cx KK k F L σ:=
 Run.facts (fun _ _ _ _ _ _ _ hf=>by
  obtain ⟨_,b,vs,ty,_,_,_,hr⟩:=hf.loc j cs hL
  obtain ⟨v,_,hv⟩:=hr.at o c hc
  exact hv.Il) h
end Go.Ab
