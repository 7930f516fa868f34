/- Part Ab10c. Conditions: none. -/
import Derived.Scope
import Derived.ProofKit
import Derived.KernelRfl
import Derived.Test.YtofehhbehegimaaGreatDoorProg
import Derived.Test.YtofehhbehegimaaGreatDoorXAb1
set_option linter.unusedSimpArgs false
set_option linter.unusedVariables false
set_option maxRecDepth 100000
set_option maxHeartbeats 40000000
set_option linter.defProp false
open Go.Proofs.Tryz renaming prog→Tzp
open Option renaming bind_eq_bind→AT,bind_eq_some_iff→AB,map_some→Ac,getD_some→BA,map_eq_some_iff→AK,bind_some→E6,isSome_some→H6,isSome_none→H5
open List renaming range→Av,mem_filter→ZX,getElem?_map→Am,foldl_cons→Au,getElem?_cons_succ→RG,mem_range→Bz,contains_iff_mem→Ar,all_eq_true→Aj,mem_zipIdx_iff_getElem?→ZY,mem_singleton→A3,mem_append→AZ,mem_cons→Az,all_cons→BO,getD_eq_getElem?_getD→A2,getElem?_eq_some_iff→AE,all_nil→Cq,replicate→AG,getElem_of_mem→Bv,getElem?_eq_getElem→Ay,mem_of_getElem?→AD,getElem?_append_left→BC,getElem?_append_right→As,getElem?_eq_none→BM,drop_of_length_le→KW,drop_drop→Es,take_append_drop→A7,eq_nil_of_length_eq_zero→An,getElem?_take→B2,length_take→B5,length_drop→Df,getElem?_drop→BN,map_cons→AF,map_nil→AN,length_cons→A0,length_nil→Bw,getElem?_cons_zero→Aw,take_succ_cons→C7,take_zero→C0,drop_succ_cons→Ez,drop_zero→TG,cons_append→AX,nil_append→Ag,append_nil→Bu,length_map→AA,getElem_mem→E5,drop_length→N9,length_append→AY,length_singleton→Bm,findIdx?_eq_some_iff_getElem→AO7,take_of_length_le→AP,any_eq_not_all_not→RE,all_append→ZV
open Bool renaming or_eq_true→Cb,and_eq_true→AO,not_eq_true'→Br,false_eq_true→A1,and_self→XB,and_true→BU,true_and→Bk,true_or→N7,or_false→L1,false_or→Ep,not_true→XC,not_false→Iv,and_false→Cy,false_and→Mk,not_not→N6,eq_iff_iff→Ak,or_eq_false_iff→CY
open Array renaming getD_eq_getD_getElem?→DI,getElem?_eq_getElem→OF,replicate→FM,length_toList→Ir,getElem?_eq_some_iff→Mj
open Nat renaming lt_or_ge→C8,le_refl→AS,zero_le→FO,le_trans→Af,eq_zero_or_pos→KZ,add_mul→Bs,mul_le_mul_right→Bi,zero_add→BF,add_zero→CF,reduceEqDiff→HN,add_sub_cancel_left→RJ
open Ne renaming symm→A6
open Option.some renaming injEq→AM
open Prod.mk renaming injEq→BZ
open Go renaming undef→Cl
open List.cons renaming injEq→ZW
open Int renaming toNat_natCast→CO,reduceBEq→Aa
namespace Go.Ab
open Go.RowKit
variable {bytes i id j n:Nat} {caps cs:List AV} {dst:Option Nat} {es:List (Int×Int)} {fid:FuncId} {im:Nat->Nat->Option Value} {listed:Array Bool} {live:List Nat} {o:O} {ops:Array Oper} {pf:List FuncId} {q:Q} {qs:List Q} {s x:List UInt8} {srows:List (List DV)} {v:AV} {vs:List Value} {want:Bool} {xs:List DV} {α:Type} {σ1 σ2:AH}
variable {P:Program} {base N:Nat} {g g':Gh} {Pr:Nat->Prop} {Y σ':AH} {w0 w w':World} {lam:Nat->Option Nat} {F:Fm} {L:Lm} {a:Act}
def iD (P:Program) (ops:Array Oper) (qs:List Q) (K:CW):Nat->Array Bool->CW
 |0,listed,F,L,Y=>Region.ready .any ops listed=[]/\K F L Y
 |fuel+1,listed,F,L,Y=>(Region.ready .any ops listed=[]->K F L Y)/\
  ∀i∈Region.ready .any ops listed,∃q,qs[i]?=some q/\XQ P q (iD P ops qs K fuel (listed.setIfInBounds i true)) F L Y
def toP (pf:List FuncId) (q:Q):Q:=
 match q.o with
 | .call f args=>if pf.contains f then { q with o:= .mF f args} else q
 |_=>q
def AOS {K:CW} (h:XQ P (toP pf q) K F L Y):XQ P q K F L Y:=by
 obtain ⟨dst,o,grd⟩:=q;cases o<;>try exact h
 rename_i f args;simp only [toP] at h;split at h
 . unfold XQ at h ⊢;simp only at h ⊢;cases hc:gd F grd with
   |none=>rw [hc] at h;exact h.elim
   |some b=>
    rw [hc] at h;cases b
    . exact h
    . obtain ⟨h1,v,⟨_,h2⟩,h3⟩:=h;exact ⟨h1,_,h2,fun v' σ' ⟨e1,e2⟩=>by subst e1;subst e2;exact h3⟩
 . exact h
def xP {ops:Array Oper} {esc:List Nat}:∀(l:List Nat) (qs:List Q),P3 P N esc ops l=some qs->∀(k i:Nat),l[k]?=some i->∃o q,ops[i]?=some o/\qs[k]?=some q/\xR P N esc ops o=some q
 |[],_,_,k,i,hk=>by simp at hk
 |j::l,qs,h,k,i,hk=>by
  simp only [P3,AT,AB] at h;obtain ⟨o,ho,q,hq,qs',hqs,he⟩:=h;cases he;cases k with
  |zero=>simp at hk;subst hk;exact ⟨o,q,ho,rfl,hq⟩
  |succ k=>simpa using xP l qs' hqs k i (by simpa using hk)
def dT {ops:Array Oper} {esc:List Nat} {pf:List FuncId} {qs:List Q} (hc:P3 P N esc ops (Av ops.size)=some qs) (K:CW) {R:Exit->Act->World->Prop}:
 ∀(fuel:Nat) (listed:Array Bool) (base:Nat) (g:Gh) (lam:Nat->Option Nat) (Pr:Nat->Prop) (F:Fm) (L:Lm) (Y:AH) (a:Act) (w0 w:World),
  iD P ops (qs.map (toP pf)) K fuel listed F L Y->Bh base g lam Pr N F L Y a w0 w->(∀a' w',FL base Pr N w0 g w K a' w'->R .normal a' w')->wpAny P .any ops R fuel listed a w
 |0,listed,base,g,lam,Pr,F,L,Y,a,w0,w,Z,h,hR=>⟨Z.1,hR _ _ ⟨g,lam,F,L,Y,Gh.le_refl g,KP.refl Pr w,h,Z.2⟩⟩
 |fuel+1,listed,base,g,lam,Pr,F,L,Y,a,w0,w,Z,h,hR=>by
  refine ⟨fun he=>hR _ _ ⟨g,lam,F,L,Y,Gh.le_refl g,KP.refl Pr w,h,Z.1 he⟩,fun i hi=>?_⟩;obtain ⟨q',hq',hxq⟩:=Z.2 i hi
  have hlt:i < ops.size:=by
   have:=(ZX.1 hi).1;simpa using this
  obtain ⟨o,q,ho,hq,hcq⟩:=xP (Av ops.size) qs hc i i (by simp [hlt]);rw [Am,hq] at hq';cases hq';refine wpOp_mono ?_ (AFP ho hcq (AOS hxq) h);rintro a' w' ⟨g',lam',F',L',σ',h1,h2,h3,h4⟩;exact dT hc K fuel _ base g' lam' Pr F' L' σ' a' w0 w' h4 h3 (fun a2 w2 hA=>hR _ _ (FL.trans h1 h2 hA))
inductive Anc (ops:Array Oper):Nat->Nat->Prop
 |one {j:Nat} {o:Oper} {e:Edge} (ho:ops[j]?=some o) (he:e∈o.after) (hb:Region.binds .any e=true):Anc ops j e.on
 |step {j i:Nat} {o:Oper} {e:Edge} (ho:ops[j]?=some o) (he:e∈o.after) (hb:Region.binds .any e=true) (h:Anc ops e.on i):Anc ops j i
def AA2 (acc:Array Nat) (l:List Edge):Nat:=l.foldl (fun s e=>if Region.binds .any e then s|||2 ^ e.on|||acc.getD e.on 0 else s) 0
def iG:List Oper->Array Nat->Array Nat
 |[],acc=>acc
 |o::l,acc=>iG l (acc.push (AA2 acc o.after.toList))
def K9 (ops:Array Oper) (listed:Array Bool):Prop:=
 ∀j o,ops[j]?=some o->listed.getD j false=true->∀e∈o.after,Region.binds .any e=true->listed.getD e.on false=true
def pU (hc:K9 ops listed) (h:Anc ops j i):(∀o,ops[j]?=some o->∀e∈o.after,Region.binds .any e=true->listed.getD e.on false=true)->listed.getD i false=true:=by
 induction h with
 |one ho he hb=>exact fun hj=>hj _ ho _ he hb
 |step ho he hb _ ih=>exact fun hj=>ih fun o' ho' e' he' hb'=>hc _ o' ho' (hj _ ho _ he hb) e' he' hb'
def sH {acc:Array Nat} (hacc:∀k i,(acc.getD k 0).testBit i=true->Anc ops k i) {o:Oper} (ho:ops[j]?=some o):
 ∀(l:List Edge) (s:Nat),(∀e∈l,e∈o.after)->(∀i,s.testBit i=true->Anc ops j i)->
  ∀i,(l.foldl (fun s e=>if Region.binds .any e then s|||2 ^ e.on|||acc.getD e.on 0 else s) s).testBit i=true->Anc ops j i
 |[],s,_,hs,i,hi=>hs i hi
 |e::l,s,hl,hs,i,hi=>by
  simp only [Au] at hi;refine sH hacc ho l _ (fun e he=>hl e (by simp [he])) ?_ i hi;intro i' hi';by_cases hb:Region.binds .any e=true
  . simp only [hb,if_true,Nat.testBit_or,Cb] at hi';rcases hi' with (h|h)|h
    . exact hs i' h
    . rw [Nat.testBit_two_pow] at h;have:e.on=i':=by simpa using h
      exact this ▸ .one ho (hl e (by simp)) hb
    . exact .step ho (hl e (by simp)) hb (hacc _ _ h)
  . simp only [hb] at hi';exact hs i' hi'
def eB {ops:Array Oper}:∀(l:List Oper) (acc:Array Nat),(∀k,l[k]?=ops[acc.size+k]?)->(∀k i,(acc.getD k 0).testBit i=true->Anc ops k i)->
 ∀k i,((iG l acc).getD k 0).testBit i=true->Anc ops k i
 |[],acc,_,h=>h
 |o::l,acc,hl,h=>by
  have ho:ops[acc.size]?=some o:=by simpa using (hl 0).symm
  refine eB l _ (fun k=>?_) (fun k i hi=>?_)
  . have:=hl (k+1);simp only [RG] at this;rw [this,Array.size_push];congr 1;omega
  . by_cases e:k=acc.size
    . subst e;have:(acc.push (AA2 acc o.after.toList)).getD acc.size 0=AA2 acc o.after.toList:=by simp
      rw [this] at hi;exact sH h ho o.after.toList 0 (fun e he=>by simpa using he) (fun i hi=>by simp at hi) i hi
    . have:(acc.push (AA2 acc o.after.toList)).getD k 0=acc.getD k 0:=by
       simp only [DI,Array.getElem?_push,e,if_false]
      rw [this] at hi;exact h k i hi
def lJ (h:((iG ops.toList #[]).getD j 0).testBit i=true):Anc ops j i:=
 eB ops.toList #[] (fun k=>by simp) (fun k i hi=>by simp at hi) j i h
def M7 :i∈Region.ready .any ops listed↔i < ops.size/\listed.getD i true=false/\∃o,ops[i]?=some o/\∀e∈o.after,Region.binds .any e=true->listed.getD e.on false=true:=by
 unfold Region.ready;simp only [ZX,Bz,AO,Br];constructor
 . rintro ⟨h1,h2,h3⟩;refine ⟨h1,h2,?_⟩;cases ho:ops[i]? with
   |none=>simp [ho] at h3
   |some o=>
    refine ⟨o,rfl,fun e he hb=>?_⟩;simp only [ho,Ac,BA,Array.all_eq_true'] at h3;have:=h3 e he;simpa [hb] using this
 . rintro ⟨h1,h2,o,ho,h3⟩;refine ⟨h1,h2,?_⟩;simp only [ho,Ac,BA,Array.all_eq_true'];intro e he;by_cases hb:Region.binds .any e=true
   . simp [h3 e he hb]
   . simp [hb]
def aU (h:i < listed.size) (d:Bool):(listed.setIfInBounds i true).getD i d=true:=by simp [h]
def Kr (h:i≠j) (d:Bool):(listed.setIfInBounds i true).getD j d=listed.getD j d:=by
 simp [Array.getElem?_setIfInBounds_ne h]
def jS (h:listed.getD j false=true):(listed.setIfInBounds i true).getD j false=true:=by
 by_cases e:i=j
 . subst e
   have:i < listed.size:=by
    rcases C8 i listed.size with h1|h1
    . exact h1
    . simp [h1] at h
   exact aU this false
 . rw [Kr e];exact h
def K9.set (hc:K9 ops listed) (hi:i∈Region.ready .any ops listed):K9 ops (listed.setIfInBounds i true):=by
 intro j o ho hj e he hb;by_cases e':i=j
 . subst e';obtain ⟨_,_,o',ho',hall⟩:=M7.1 hi;rw [ho] at ho';cases ho';exact jS (hall e he hb)
 . rw [Kr e'] at hj;exact jS (hc j o ho hj e he hb)
def UA (hj:j∈Region.ready .any ops listed) (hne:i≠j):j∈Region.ready .any ops (listed.setIfInBounds i true):=by
 obtain ⟨h1,h2,o,ho,h3⟩:=M7.1 hj;exact M7.2 ⟨h1,by rw [Kr hne];exact h2,o,ho,fun e he hb=>jS (h3 e he hb)⟩
def AFY (x y:Q):Bool:=
 (match x.dst with|some d=>!y.looks.contains d&&y.dst != some d|none=>true)&&(match y.dst with|some d=>!x.looks.contains d|none=>true)
def ACE {x y:Q} (h:AFY x y=true):(∀s∈y.looks,x.dst≠some s)/\(∀k,y.dst=some k->x.dst≠some k)/\(∀s∈x.looks,y.dst≠some s):=by
 unfold AFY at h;simp only [AO] at h;refine ⟨fun s hs he=>?_,fun k hk he=>?_,fun s hs he=>?_⟩
 . rw [he] at h;simp [hs] at h
 . rw [he,hk] at h;simp at h
 . rw [he] at h;simp [hs] at h
def before (tab:Array Nat) (i j:Nat) (qi qj:Q):Bool:=(tab.getD j 0).testBit i||(AFY qi qj&&mL qj.o&&(isV qj.o||yV qi.o||(ARE qi.o&&ABC qj.o)))
def uO {tab:Array Nat} (htab:∀j i,(tab.getD j 0).testBit i=true->Anc ops j i) {K:CW} {qi:Q} (hi:qs[i]?=some qi) (hV:isV qi.o=true):
 ∀(fuel:Nat) (listed:Array Bool) (F:Fm) (L:Lm) (Y:AH) (v:AV),K9 ops listed->listed.size=ops.size->
  (∀j qj,qs[j]?=some qj->j≠i->listed.getD j true=false->before tab i j qi qj=true)->
  i∈Region.ready .any ops listed->YQ P qi F L Y v->iD P ops qs K fuel (listed.setIfInBounds i true) (BL qi.dst v F) L Y->iD P ops qs K (fuel+1) listed F L Y:=by
 intro fuel
 induction fuel with
 |zero=>
  intro listed F L Y v hcl hsz hb hr hy H;refine ⟨fun h=>(by rw [h] at hr;cases hr),fun j hj=>?_⟩;by_cases hji:i=j
  . subst hji;exact ⟨qi,hi,(APH hV _).2 ⟨v,hy,H⟩⟩
  . have:=UA hj hji;rw [H.1] at this;cases this
 |succ fuel ih=>
  intro listed F L Y v hcl hsz hb hr hy H;refine ⟨fun h=>(by rw [h] at hr;cases hr),fun j hj=>?_⟩;by_cases hji:i=j
  . subst hji;exact ⟨qi,hi,(APH hV _).2 ⟨v,hy,H⟩⟩
  . obtain ⟨qj,hqj,hxj⟩:=H.2 j (UA hj hji);obtain ⟨hjlt,hjun,oj,hoj,hjall⟩:=M7.1 hj;have hbj:=hb j qj hqj (A6 hji) hjun;have hiun:=(M7.1 hr).2.1;have hilt:=(M7.1 hr).1;unfold before at hbj;simp only [Cb,AO] at hbj;rcases hbj with hanc|⟨⟨hap,htame⟩,hcls⟩
    . have h1:=pU hcl (htab j i hanc) (fun o ho=>by rw [hoj] at ho;cases ho;exact hjall);rw [DI,OF (by omega)] at h1 hiun;simp at h1 hiun;rw [h1] at hiun;cases hiun
    . obtain ⟨a1,a2,a3⟩:=ACE hap;refine ⟨qj,hqj,?_⟩;have hxj':=AXV htame a1 a2 hxj;have hcl':=hcl.set hj;have hr':i∈Region.ready .any ops (listed.setIfInBounds j true):=UA hr (A6 hji)
      have hb':∀k qk,qs[k]?=some qk->k≠i->(listed.setIfInBounds j true).getD k true=false->before tab i k qi qk=true:=fun k qk hk hki hun=>by
       by_cases e:j=k
       . subst e;rw [aU (by omega)] at hun;cases hun
       . rw [Kr e] at hun;exact hb k qk hk hki hun
      have hcomm:(listed.setIfInBounds i true).setIfInBounds j true=(listed.setIfInBounds j true).setIfInBounds i true:=Array.setIfInBounds_comm _ _ hji;have hlook:∀u,∀s∈qi.looks,F s=BL qj.dst u F s:=fun u s hs=>(ABB (a3 s hs) u F).symm;by_cases hVj:isV qj.o=true
      . rw [APH hVj] at hxj' ⊢;obtain ⟨u,hu,hk⟩:=hxj';refine ⟨u,hu,ih _ _ _ _ v hcl' (by simpa using hsz) hb' hr' (pN (hlook u) hy) ?_⟩;rw [<- hcomm];exact hk
      . have hcls':yV qi.o=true\/(ARE qi.o=true/\ABC qj.o=true):=by
         rcases hcls with (h1|h1)|h1
         . exact absurd h1 hVj
         . exact .inl h1
         . exact .inr h1
        rcases hcls' with hp|hp
        case inr=>
         refine API hp.2 (fun u σ' hk=>?_) hxj';refine ih _ _ _ _ v hcl' (by simpa using hsz) hb' hr' (AXY hp.1 σ' (pN (hlook u) hy)) ?_;rw [<- hcomm];exact hk
        refine AJS htame (fun u L' σ' hk=>?_) hxj';refine ih _ _ _ _ v hcl' (by simpa using hsz) hb' hr' (ATU hp L' σ' (pN (hlook u) hy)) ?_;rw [<- hcomm];exact hk
def pG (tab:Array Nat) (qs:List Q) (listed:Array Bool) (i:Nat):Bool:=
 match qs[i]? with
 |some qi=>isV qi.o&&(qs.zipIdx.all fun (qj,j)=>j==i||listed.getD j true||before tab i j qi qj)
 |none=>false
def sS (ops:Array Oper) (tab:Array Nat) (qs:List Q):List Nat->Array Bool->Bool
 |[],listed=>(Region.ready .any ops listed).isEmpty
 |i::rest,listed=>(Region.ready .any ops listed).contains i&&(pG tab qs listed i||(Region.ready .any ops listed==[i]&&((qs[i]?).map fun q=>mL q.o).getD false))&&sS ops tab qs rest (listed.setIfInBounds i true)
def yR (qs:List Q) (order:List Nat):List Q:=order.filterMap (qs[·]?)
def zH {ops:Array Oper} {tab:Array Nat} (htab:∀j i,(tab.getD j 0).testBit i=true->Anc ops j i) {qs:List Q} {K:CW} (hsz:qs.length=ops.size):∀(order:List Nat) (listed:Array Bool) (F:Fm) (L:Lm) (Y:AH),sS ops tab qs order listed=true->K9 ops listed->listed.size=ops.size->
 B6 P K (yR qs order) F L Y->iD P ops qs K order.length listed F L Y
 |[],listed,F,L,Y,hp,_,_,Z=>⟨by simpa [sS] using hp,Z⟩
 |i::rest,listed,F,L,Y,hp,hcl,hls,Z=>by
  simp only [sS,AO,Cb,Ar] at hp;obtain ⟨⟨hr,hok⟩,hrest⟩:=hp;have hilt:=(M7.1 hr).1;have hqi:qs[i]?=some qs[i]:=by simp
  have hpk:yR qs (i::rest)=qs[i]::yR qs rest:=by unfold yR;rw [List.filterMap_cons,hqi]
  rw [hpk] at Z;have Z:XQ P qs[i] (B6 P K (yR qs rest)) F L Y:=Z;have ih:=fun F L Y=>zH htab (K:=K) hsz rest (listed.setIfInBounds i true) F L Y hrest (hcl.set hr) (by simpa using hls);rcases hok with hok|hok
  . unfold pG at hok;rw [hqi] at hok;simp only [AO,Aj] at hok;obtain ⟨v,hy,hk⟩:=(APH hok.1 _).1 Z;refine uO htab hqi hok.1 rest.length listed F L Y v hcl hls (fun j qj hj hji hun=>?_) hr hy (ih _ _ _ hk)
    have hmem:(qj,j)∈qs.zipIdx:=by
     rw [ZY];exact hj
    have:=hok.2 (qj,j) hmem;simp only [Cb,beq_iff_eq] at this;rcases this with (h|h)|h
    . exact absurd h hji
    . rw [hun] at h;cases h
    . exact h
  . simp only [beq_iff_eq,hqi,Ac,BA] at hok;obtain ⟨hok,htm⟩:=hok;refine ⟨fun h=>(by rw [h] at hr;cases hr),fun j hj=>?_⟩;rw [hok] at hj;simp only [A3] at hj;subst hj;exact ⟨_,hqi,AJS htm (fun u L' σ' hk=>ih _ _ _ hk) Z⟩
def AJU (P:Program) (N:Nat) (esc:List Nat) (pf:List FuncId) (order:List Nat) (ops:Array Oper):Option (List Q):=do
 let qs <- P3 P N esc ops (Av ops.size)
 if sS ops (iG ops.toList #[]) (qs.map (toP pf)) order (FM ops.size false)&&order.length==ops.size then some (yR (qs.map (toP pf)) order) else none
def eS {ops:Array Oper} {esc:List Nat}:∀(l:List Nat) (qs:List Q),P3 P N esc ops l=some qs->qs.length=l.length
 |[],qs,h=>by simp only [P3,AM] at h;subst h;rfl
 |j::l,qs,h=>by
  simp only [P3,AT,AB] at h;obtain ⟨o,ho,q,hq,qs',hqs,he⟩:=h;cases he;simp [eS l qs' hqs]
def AGZ {esc:List Nat} {order:List Nat} (hm:P.follows .mixedOrders=true) (hc:AJU P N esc pf order ops=some qs) {K:CW} (Z:B6 P K qs F L Y)
 (h:Bh base g lam Pr N F L Y a w0 w) :(Code.region id ops true).wp P (fun e a' w'=>e= .normal/\FL base Pr N w0 g w K a' w') a w:=by
 simp only [AJU,AT,AB] at hc;obtain ⟨qs0,hq0,hc⟩:=hc;split at hc
 case isFalse=>cases hc
 rename_i hp;simp only [AO,beq_iff_eq] at hp;cases hc;have hlen:=eS _ _ hq0
 have hcl:K9 ops (FM ops.size false):=by
  intro j o ho hj
  have:(FM ops.size false).getD j false=false:=by
   simp only [DI,Array.getElem?_replicate];split<;>rfl
  rw [this] at hj;cases hj
 have hany:=zH (P:=P) (fun j i=>lJ) (K:=K) (qs:=qs0.map (toP pf)) (by simpa using hlen) _ _ F L Y hp.1 hcl (by simp) Z;rw [hp.2] at hany;refine wp_region_any hm ?_
 have hdrew:Bh base g lam Pr N F L Y a w0 { w with drawn:=w.drawn+1}:=
  h.step (w':=w.drew) (Gh.le_refl g) (fun k b hb=>rfl) (h.rel.grow (w':=w.drew) (AS _) (fun _ _ _=>rfl) ((Below.refl base w).drew) (fun b hb=>⟨(h.rel.pr b hb).1,.inl hb⟩))
 exact dT hq0 K _ _ base g lam Pr F L Y a w0 _ hany hdrew (fun a' w' hA=>⟨rfl,FL.trans (Gh.le_refl g) ⟨AS _,fun _ _=>rfl⟩ hA⟩)
variable {P:Program} {base N:Nat} {g g':Gh} {Pr:Nat->Prop} {Y σ':AH} {w0 w w':World} {lam:Nat->Option Nat} {F:Fm} {L:Lm} {a:Act} {K:CW}
def AFX {K':CW} (hk:∀F L Y,K F L Y->K' F L Y) (Z:XO P dst K F L Y o):XO P dst K' F L Y o:=by
 by_cases hV:isV o=true
 . rw [ALD hV] at Z ⊢;obtain ⟨v,h1,h2⟩:=Z;exact ⟨v,h1,hk _ _ _ h2⟩
 . cases o<;>simp only [isV,not_true_eq_false] at hV
   case box x sh=>
    simp only [XO,Z0] at Z ⊢;refine ⟨Z.1,?_⟩;have Z:=Z.2;cases dst with
    |none=>exact Z.elim
    |some d=>cases sh with
     |true=>exact fun i hi=>hk _ _ _ (Z i hi)
     |false=>exact hk _ _ _ Z
   case al z sh=>
    simp only [XO,Z0] at Z ⊢;refine ⟨Z.1,?_⟩;have Z:=Z.2;cases dst with
    |none=>exact Z.elim
    |some d=>cases sh with
     |true=>exact fun i hi=>hk _ _ _ (Z i hi)
     |false=>exact hk _ _ _ Z
   case st x v n=>
    simp only [XO,XSt] at Z ⊢;obtain ⟨h1,h2,h3,h4⟩:=Z;refine ⟨h1,h2,h3,?_⟩;split at h4
    . exact hk _ _ _ h4
    . exact h4.elim
   case msl e s b z l c=>
    obtain ⟨k,k',n,h1,h2,h3,h4,h5,h6⟩:=Z;exact ⟨k,k',n,h1,h2,h3,h4,h5,fun i hi=>hk _ _ _ (h6 i hi)⟩
   case uV e s b x y=>
    obtain ⟨n,cs,σ1,srows,h1,h2,h3,h4,h5,h6,h7⟩:=Z;exact ⟨n,cs,σ1,srows,h1,h2,h3,fun e=>hk _ _ _ (h4 e),h5,h6,fun e t ht=>hk _ _ _ (h7 e t ht)⟩
   case trn x y=>
    obtain ⟨k,s,e,cs,σ1,h1,h2⟩:=Z;exact ⟨k,s,e,cs,σ1,h1,fun t ht=>hk _ _ _ (h2 t ht)⟩
   case mW e s l z ps=>
    obtain ⟨cs,h1,h2⟩:=Z;exact ⟨cs,h1,h2.imp (fun h2 t ht=>hk _ _ _ (h2 t ht)) fun ⟨ds,h3,h5⟩=>⟨ds,h3,fun t ht=>hk _ _ _ (h5 t ht)⟩⟩
   case app e s b x y=>
    rcases Z with ⟨rows,σ1,srows,h1,h2,h3,h4,h5,h6⟩|⟨rows,srows,h1,h2,h3,h4,h5,h6,h7⟩
    . exact .inl ⟨rows,σ1,srows,h1,h2,h3,h4,h5,fun t ht=>hk _ _ _ (h6 t ht)⟩
    . exact .inr ⟨rows,srows,h1,h2,h3,h4,h5,h6,hk _ _ _ h7⟩
   case call f args=>
    obtain ⟨h1,R,h2,h3⟩:=Z;exact ⟨h1,R,h2,fun v σ' hv=>hk _ _ _ (h3 v σ' hv)⟩
   case aR x args=>
    obtain ⟨f,first,caps,h0,hb,h1,R,h2,h3⟩:=Z;exact ⟨f,first,caps,h0,hb,h1,R,h2,fun v σ' hv=>hk _ _ _ (h3 v σ' hv)⟩
   case fT s x y z=>
    obtain ⟨h0,t,h1,h2⟩:=Z;refine ⟨h0,t,h1,?_⟩;cases s
    . obtain ⟨es,n,x0,e1,e2,e3,h2,h3⟩:=h2;exact ⟨es,n,x0,e1,e2,e3,h2,fun t' ht'=>hk _ _ _ (h3 t' ht')⟩
    . obtain ⟨es,n,x0,e1,e2,e3,h2,h3⟩:=h2;exact ⟨es,n,x0,e1,e2,e3,h2,fun t' ht'=>hk _ _ _ (h3 t' ht')⟩
   case ex k xs=>
    simp only [XO,XEx,hV,A1,if_false] at Z ⊢;exact ⟨Z.1,Z.2.mono fun v σ' _ hv=>hk _ _ _ hv⟩
def U2 {K':CW} (hk:∀F L Y,K F L Y->K' F L Y) (Z:XQ P q K F L Y):XQ P q K' F L Y:=by
 unfold XQ at Z ⊢;cases hc:gd F q.grd with
 |none=>rw [hc] at Z;exact Z.elim
 |some b=>
  rw [hc] at Z;cases b
  . exact hk _ _ _ Z
  . exact AFX hk Z
inductive PT where
 |done
 |one (i:Nat) (t:PT)
 |alt (i:Nat) (t r:PT)
 |lay (i:Nat) (t:PT)
inductive QT where
 |done
 |one (q:Q) (t:QT)
 |alt (q:Q) (t r:QT)
def XT (P:Program) (K:CW):Bool->QT->CW
 |false,.done=>K
 |true,.done=>fun _ _ _=>True
 |_,.one q t=>XQ P q (XT P K false t)
 |_,.alt q t r=>fun F L Y=>XQ P q (XT P K false t) F L Y/\XT P K true r F L Y
def PT.depth:PT->Nat
 | .done=>0
 | .one _ t=>t.depth+1
 | .alt _ t r=>max (t.depth+1) r.depth
 | .lay _ t=>t.depth+1
def gF (qs:List Q):PT->Option QT
 | .done=>some .done
 | .one i t=>(qs[i]?).bind fun q=>(gF qs t).map (.one q ·)
 | .alt i t r=>(qs[i]?).bind fun q=>(gF qs t).bind fun t'=>(gF qs r).map (.alt q t' ·)
 | .lay i t=>(qs[i]?).bind fun q=>(gF qs t).map (.one q ·)
def Ps (ops:Array Oper) (tab:Array Nat) (qs:List Q):PT->Array Bool->Option (List Nat)->Bool
 | .done,listed,none=>(Region.ready .any ops listed).isEmpty
 | .done,listed,some l=>(Region.ready .any ops listed).all (l.contains ·)
 | .one i t,listed,none=>(Region.ready .any ops listed).contains i&&(Region.ready .any ops listed==[i]||pG tab qs listed i)&&Ps ops tab qs t (listed.setIfInBounds i true) none
 | .one i t,listed,some l=>(Region.ready .any ops listed).contains i&&(Region.ready .any ops listed).all (fun j=>j==i||l.contains j)&&Ps ops tab qs t (listed.setIfInBounds i true) none
 | .alt i t r,listed,e=>(Region.ready .any ops listed).contains i&&Ps ops tab qs t (listed.setIfInBounds i true) none&&Ps ops tab qs r listed (some (i::e.getD []))
 | .lay _ _,_,_=>false
def pJ {ops:Array Oper} {tab:Array Nat} (htab:∀j i,(tab.getD j 0).testBit i=true->Anc ops j i) {qs:List Q}:∀(t:PT) (qt:QT),gF qs t=some qt->
 (∀n listed F L Y,t.depth<=n->Ps ops tab qs t listed none=true->K9 ops listed->listed.size=ops.size->XT P K false qt F L Y->iD P ops qs K n listed F L Y)/\
 (∀n listed l F L Y,t.depth<=n+1->Ps ops tab qs t listed (some l)=true->K9 ops listed->listed.size=ops.size->XT P K true qt F L Y->
   ∀j∈Region.ready .any ops listed,j ∉ l->∃q,qs[j]?=some q/\XQ P q (iD P ops qs K n (listed.setIfInBounds j true)) F L Y)
 | .done,qt,hp=>by
  simp only [gF,AM] at hp;subst hp;refine ⟨fun n listed F L Y _ hp _ _ Z=>?_,fun n listed l F L Y _ hp _ _ _ j hj hjl=>?_⟩
  . simp only [Ps,List.isEmpty_iff] at hp;cases n with
    |zero=>exact ⟨hp,Z⟩
    |succ n=>exact ⟨fun _=>Z,fun i hi=>by rw [hp] at hi;cases hi⟩
  . simp only [Ps,Aj,Ar] at hp;exact absurd (hp j hj) hjl
 | .one i t,qt,hp=>by
  simp only [gF,AB,AK] at hp;obtain ⟨q,hq,t',ht',rfl⟩:=hp;obtain ⟨ih,_⟩:=pJ htab t t' ht';refine ⟨fun n listed F L Y hd hp hcl hsz Z=>?_,fun n listed l F L Y hd hp hcl hsz Z j hj hjl=>?_⟩
  . simp only [PT.depth] at hd;obtain ⟨m,rfl⟩:∃m,n=m+1:=⟨n - 1,by omega⟩;simp only [Ps,AO,Cb,Ar,beq_iff_eq] at hp;obtain ⟨⟨hr,hok⟩,hrest⟩:=hp;have Z:XQ P q (XT P K false t') F L Y:=Z;have ih':=fun F L Y=>ih m (listed.setIfInBounds i true) F L Y (by omega) hrest (hcl.set hr) (by simpa using hsz);rcases hok with hok|hok
    . refine ⟨fun h=>(by rw [h] at hr;cases hr),fun j hj=>?_⟩;rw [hok] at hj;simp only [A3] at hj;subst hj;exact ⟨_,hq,U2 (fun F L Y h=>ih' F L Y h) Z⟩
    . unfold pG at hok;rw [hq] at hok;simp only [AO,Aj] at hok;obtain ⟨v,hy,hk⟩:=(APH hok.1 _).1 Z;refine uO htab hq hok.1 m listed F L Y v hcl hsz (fun j qj hj hji hun=>?_) hr hy (ih' _ _ _ hk)
      have hmem:(qj,j)∈qs.zipIdx:=by
       rw [ZY];exact hj
      have:=hok.2 (qj,j) hmem;simp only [Cb,beq_iff_eq] at this;rcases this with (h|h)|h
      . exact absurd h hji
      . rw [hun] at h;cases h
      . exact h
  . simp only [PT.depth] at hd;simp only [Ps,AO,Aj,Ar,Cb,beq_iff_eq] at hp;obtain ⟨⟨hr,hall⟩,hrest⟩:=hp;have Z:XQ P q (XT P K false t') F L Y:=Z;rcases hall j hj with rfl|h
    . exact ⟨q,hq,U2 (fun F L Y h=>ih n _ F L Y (by omega) hrest (hcl.set hr) (by simpa using hsz) h) Z⟩
    . exact absurd h hjl
 | .alt i t r,qt,hp=>by
  simp only [gF,AB,AK] at hp;obtain ⟨q,hq,t',ht',r',hr',rfl⟩:=hp;obtain ⟨ih,_⟩:=pJ htab t t' ht';obtain ⟨_,ihr⟩:=pJ htab r r' hr';refine ⟨fun n listed F L Y hd hp hcl hsz Z=>?_,fun n listed l F L Y hd hp hcl hsz Z j hj hjl=>?_⟩
  . simp only [PT.depth] at hd;obtain ⟨m,rfl⟩:∃m,n=m+1:=⟨n - 1,by omega⟩;simp only [Ps,AO,Ar,Option.getD_none] at hp;obtain ⟨⟨hr,hrest⟩,hp2⟩:=hp;obtain ⟨hx1,hx2⟩:=Z;refine ⟨fun h=>(by rw [h] at hr;cases hr),fun j hj=>?_⟩;by_cases hji:j=i
    . subst hji;exact ⟨q,hq,U2 (fun F L Y h=>ih m _ F L Y (by omega) hrest (hcl.set hr) (by simpa using hsz) h) hx1⟩
    . exact ihr m listed [i] F L Y (by omega) hp2 hcl hsz hx2 j hj (by simpa using hji)
  . simp only [PT.depth] at hd;simp only [Ps,AO,Ar,BA] at hp;obtain ⟨⟨hr,hrest⟩,hp2⟩:=hp;obtain ⟨hx1,hx2⟩:=Z;by_cases hji:j=i
    . subst hji;exact ⟨q,hq,U2 (fun F L Y h=>ih n _ F L Y (by omega) hrest (hcl.set hr) (by simpa using hsz) h) hx1⟩
    . exact ihr n listed (i::l) F L Y (by omega) hp2 hcl hsz hx2 j hj (by simp [hji,hjl])
 | .lay i t,qt,hp=>⟨fun n listed F L Y _ hp=>by simp [Ps] at hp,fun n listed l F L Y _ hp=>by simp [Ps] at hp⟩
variable {P:Program} {base N:Nat} {g g':Gh} {Pr:Nat->Prop} {Y σ':AH} {w0 w w':World} {lam:Nat->Option Nat} {F:Fm} {L:Lm} {a:Act} {K:CW} {d:Nat} {z:List AV}
def VR.CL {x:AV} {v:Value} (h:VR g x v) (d:Nat):x.CL d=false:=by cases h<;>rfl
def kO {x:AV} (h:x.BS=true) (d:Nat):x.CL d=false:=by cases x<;>first|rfl|(cases h;done)
def ADT {x:AV} (h:x.B1=true) (d:Nat):x.CL d=false:=by cases x<;>first|rfl|(cases h;done)
def AR.CL {f:FuncId} {args:List AV} {Q:AV->AH->Prop} (h:AR P f args Y Q) (d:Nat):AR P f args Y (fun v σ'=>Q v σ'/\v.CL d=false):=
 fun base g Pr w0 w vs hr hv=>(h base g Pr w0 w vs hr hv).mono fun _ _ ⟨v,av,g',σ',a,b,c,d',e,q⟩=>⟨v,av,g',σ',a,b,c,d',e,q,b.CL d⟩
def Off (d:Nat) (F:Fm):Prop:=∀s,(F s).CL d=false
def Off.BL (h:Off d F) {dst:Option Nat} {v:AV} (hv:v.CL d=false):Off d (BL dst v F):=by
 intro s;cases dst with
 |none=>exact h s
 |some k=>
  simp only [Ab.BL,Ab.put];split
  . exact hv
  . exact h s
def Off.Dp (h:Off d F) (k:Nat):Off d (Dp k F):=by
 intro s;simp only [Ab.Dp];split
 . rfl
 . exact h s
def yO (d:Nat) (F:Fm):Off d (Dp d F):=by
 intro s;simp only [Dp];split
 . rfl
 . rename_i h;simpa using h
def cOk:X->Bool
 | .t _=>true
 | .c v=>v.BS
def Yy (h:Off d F) {x:X} (Z:cOk x=true):(xv F x).CL d=false:=by
 cases x with
 |t n=>exact h n
 |c v=>exact kO Z d
def ZC:O->Bool
 | .mv x| .fld x _| .ld x _| .ldl x _| .nck x=>cOk x
 | .pick _ x y=>cOk x&&cOk y
 | .st x _ _=>cOk x
 | .fT _ _ _ _=>false
 |_=>true
def ABA {k:Nat} (h:k≠d) (z:List AV) (L:Lm):At d z L k=L k:=by simp [At,h]
def AU2 {p:AV} (hp:p.CL d=false) (n:Option Nat):ldA (At d z L) Y p n=ldA L Y p n:=by
 cases p<;>try rfl
 . rename_i dx;cases dx<;>rfl
 rename_i k o;have:k≠d:=by simpa [AV.CL] using hp
 simp [ldA,ABA this]
def ARA {p:AV} (hp:p.CL d=false) (n:Option Nat):AAX (At d z L) p n=AAX L p n:=by
 cases p<;>try rfl
 rename_i k o;have:k≠d:=by simpa [AV.CL] using hp
 simp [AAX,ABA this]
def AY8 (h:Off d F) (hc:ZC o=true):pv F (At d z L) Y o=pv F L Y o:=by
 cases o<;>try rfl
 case ld x n=>exact AU2 (Yy h hc) n
 case ldl x n=>exact ARA (Yy h hc) n
def ZO {o:Nat} {n:Option Nat} (h:rdC cs o n=some v):v.CL d=false:=by
 cases n with
 |none=>
  simp only [rdC,AB] at h;obtain ⟨v0,_,h⟩:=h;obtain ⟨rfl,hc⟩:=bY h;exact ADT hc d
 |some n=>
  simp only [rdC] at h;split at h
  . cases h;rfl
  . cases h
def AQ3 {op:BinOp} {k:IntKind} {x y:Int} (h:AMV op k x y=some v):v.CL d=false:=by
 unfold AMV at h;split at h<;>first|(cases h;rfl)|(split at h<;>first|(cases h;done)|(cases h;rfl))|(cases h;done)
def ASZ {op:BinOp} {y:List UInt8} (h:ABU op x y=some v):v.CL d=false:=by
 unfold ABU at h;split at h<;>first|(cases h;rfl)|(split at h<;>first|(cases h;done)|(cases h;rfl))|(cases h;done)
def AKJ {b:Bool} {x y:AV} (h:mmA b x y=some v):v.CL d=false:=by
 unfold mmA at h;split at h
 . split at h
   . cases h;rfl
   . cases h
 . cases h
def AAR {rows:List (List DV)} {m:Int} (h:ixR rows m n=some v):v.CL d=false:=by
 unfold ixR at h;split at h
 . simp only [AB] at h;obtain ⟨r,_,h⟩:=h;split at h
   . cases h;rfl
   . cases h
 . cases h
def AUG {k:EK} {args:List AV} (h:exP k args=some v):v.CL d=false:=by
 obtain ⟨_,h⟩:=AJ3 h;unfold xW at h;split at h
 . simp only [AK] at h;obtain ⟨_,_,rfl⟩:=h;rfl
 . cases h
def AVU (h:Off d F) (hc:ZC o=true) (hv:pv F L Y o=some v):v.CL d=false:=by
 cases o<;>simp only [pv] at hv<;>try (cases hv;done)
 case mv x=>cases hv;exact Yy h hc
 case ex k xs=>exact AUG hv
 case pick c x y=>
  simp only [ZC,AO] at hc;unfold AED at hv;split at hv
  . cases hv;split
    . exact Yy h hc.1
    . exact Yy h hc.2
  . cases hv
 case fld x off=>
  have Z:=Yy h hc;generalize xv F x=p at hv Z;cases p<;>simp only [AG5] at hv<;>try (cases hv;done)
  . rename_i dx;cases dx<;>simp only at hv<;>first|(cases hv;done)|(cases hv;rfl)
  . cases hv;exact Z
  . cases hv;rfl
  . cases hv;rfl
 case ld x n=>
  generalize xv F x=p at hv;cases p<;>simp only [ldA] at hv<;>try (cases hv;done)
  . rename_i dx;cases dx<;>simp only at hv<;>first|(cases hv;done)|exact ZO hv
  . simp only [AB] at hv;obtain ⟨_,_,hv⟩:=hv;exact ZO hv
  . simp only [AB] at hv;obtain ⟨_,_,hv⟩:=hv;exact ZO hv
  . exact ZO hv
 case ldl x n=>
  generalize xv F x=p at hv;cases p<;>simp only [AAX] at hv<;>try (cases hv;done)
  simp only [AB] at hv;obtain ⟨_,_,hv⟩:=hv;exact ZO hv
 case ix x i n=>
  unfold ixA at hv;split at hv
  . split at hv
    . cases hv;rfl
    . cases hv
  . split at hv
    . cases hv;rfl
    . cases hv
  . exact AAR hv
  . exact AAR hv
  . exact AAR hv
  . cases hv
 case AST x i=>
  unfold tT at hv;split at hv
  . split at hv
    . simp only [AK] at hv;obtain ⟨_,_,rfl⟩:=hv;rfl
    . cases hv
  . cases hv
 case len x=>
  unfold Tx at hv;split at hv<;>first|(cases hv;rfl)|(cases hv;done)
 case AOL x=>
  unfold y5 at hv;split at hv<;>first|(cases hv;rfl)|(cases hv;done)
 case bin op x y=>
  unfold ALK at hv;split at hv
  . split at hv
    . exact AQ3 hv
    . cases hv
  . exact ASZ hv
  . cases hv
 case APN op x y=>
  unfold xJ at hv;split at hv<;>first|(cases hv;rfl)|(cases hv;done)
 case un op x=>
  unfold unA at hv;split at hv<;>first|(cases hv;rfl)|(cases hv;done)
 case conv k x=>
  unfold xS at hv;split at hv<;>first|(cases hv;rfl)|(cases hv;done)
 case bld z ps=>simp only [AK] at hv;obtain ⟨_,_,rfl⟩:=hv;rfl
 case bsl s n z ps=>simp only [AK] at hv;obtain ⟨_,_,rfl⟩:=hv;rfl
 case mkf f x y=>
  split at hv
  . cases hv;rfl
  . cases hv
 case ext x i=>
  unfold AL8 at hv;split at hv
  . simp only [AB] at hv;obtain ⟨v0,_,hv⟩:=hv;obtain ⟨rfl,hn⟩:=sN hv;exact kO hn d
  . cases hv
 case nck x=>
  have Z:=Yy h hc;generalize xv F x=p at hv Z;cases p<;>simp only [ARN] at hv<;>try (cases hv;done)
  . rename_i dx;cases dx<;>simp only at hv<;>first|(cases hv;done)|(cases hv;rfl)
  . cases hv;exact Z
  . cases hv;rfl
  . cases hv;rfl
 case mm b x y=>exact AKJ hv
 case fd x off n=>
  generalize xv F x=p at hv;cases p<;>simp only [fdA] at hv<;>try (cases hv;done)
  exact ZO hv
 case ssl x lo hi=>
  unfold Yl at hv;split at hv
  . simp only [AK] at hv;obtain ⟨_,_,rfl⟩:=hv;rfl
  . cases hv
 case sls x lo hi mx n=>
  unfold AOM at hv;split at hv
  . split at hv
    . cases hv;rfl
    . cases hv
  . simp only [AB] at hv;obtain ⟨_,_,hv⟩:=hv;split at hv
    . cases hv;rfl
    . cases hv
  . simp only [AB] at hv;obtain ⟨_,_,hv⟩:=hv;split at hv
    . cases hv;rfl
    . cases hv
  simp only [AB] at hv;obtain ⟨rows,_,hv⟩:=hv;unfold AI5 at hv;split at hv
  . simp only [AB] at hv;obtain ⟨b,_,hv⟩:=hv;split at hv
    . cases hv;rfl
    . split at hv
      . cases hv;rfl
      . cases hv
    . cases hv
  . cases hv
 case AIL ne x=>
  unfold yS at hv;split at hv<;>first|(cases hv;rfl)|(cases hv;done)
 case AI8 ne n x y=>
  unfold y6 at hv;split at hv
  . split at hv
    . simp only [AK] at hv;obtain ⟨_,_,rfl⟩:=hv;rfl
    . cases hv
  . cases hv
 case mm3 b x y z=>
  simp only [AB] at hv;obtain ⟨_,_,hv⟩:=hv;exact AKJ hv
 case APP x=>simp only [AK] at hv;obtain ⟨_,_,rfl⟩:=hv;rfl
def Ea (h:dst≠some d) (v x:AV) (F:Fm):BL dst v (put d x F)=put d x (BL dst v F):=
 kY (d:=dst) (e:=some d) (fun k hk he=>h (by rw [hk,he])) v x F
def Y5 {k:Nat} (h:d≠k) (F:Fm):Dp k (put d (.lp d 0) F)=put d (.lp d 0) (Dp k F):=by
 funext s;simp only [Dp,put];by_cases e:s=d
 . subst e;simp [AV.CL,h]
 . simp [e]
def kX {k:Nat} (h:k≠d) (x y:List AV) (L:Lm):At k x (At d y L)=At d y (At k x L):=by
 funext s;simp only [At];by_cases e:s=k
 . subst e;simp [h]
 . simp [e]
def AXS (hN:Off d F) (hc:ZC o=true) (hl:∀s∈Ky o,s≠d) (hd:dst≠some d) (Z:XO P dst K (put d (.lp d 0) F) (At d z L) Y o):
 XO P dst (fun F' L' σ'=>Off d F'/\K (put d (.lp d 0) F') (At d z L') σ') F L Y o:=by
 have hF:∀s∈Ky o,put d (.lp d 0) F s=F s:=fun s hs=>by simp [put,hl s hs]
 by_cases hV:isV o=true
 . rw [ALD hV] at Z ⊢;obtain ⟨u,h1,h2⟩:=Z;have h1:=pP hF h1
   have h3:Yv P F L Y u o/\u.CL d=false:=by
    cases o<;>try (cases hV;done)
    case mF f args=>exact ⟨h1,kO h1.2.1 d⟩
    all_goals
     simp only [Yv] at h1 ⊢;rw [AY8 hN hc] at h1;exact ⟨h1,AVU hN hc h1⟩
   refine ⟨u,h3.1,hN.BL h3.2,?_⟩;rw [<- Ea hd];exact h2
 . cases o<;>simp only [isV,not_true_eq_false] at hV<;>simp only [Ky,AZ] at hF
   case box x sh=>
    simp only [XO,Z0] at Z ⊢;rw [<- BY hF];refine ⟨Z.1,?_⟩;have Z:=Z.2;cases dst with
    |none=>exact Z.elim
    |some e=>
     have hne:d≠e:=fun h=>hd (by rw [h]);cases sh with
     |true=>exact fun i hi=>⟨hN.BL (dst:=some e) (v:= .gp i 0) rfl,by have:=Z i hi;rw [show put e (.gp i 0) (put d (.lp d 0) F)=put d (.lp d 0) (put e (.gp i 0) F) from Ea (dst:=some e) hd _ _ _] at this;exact this⟩
     |false=>
      refine ⟨(hN.Dp e).BL (dst:=some e) (v:= .lp e 0) (by simp [AV.CL];exact A6 hne),?_⟩;have Z:K (put e (.lp e 0) (Dp e (put d (.lp d 0) F))) (At e (xv (put d (.lp d 0) F) x).cells (At d z L)) Y:=Z;rw [Y5 hne,kX (A6 hne),show put e (.lp e 0) (put d (.lp d 0) (Dp e F))=put d (.lp d 0) (put e (.lp e 0) (Dp e F)) from Ea (dst:=some e) hd _ _ _] at Z;exact Z
   case al y sh=>
    simp only [XO,Z0] at Z ⊢;refine ⟨Z.1,?_⟩;have Z:=Z.2;cases dst with
    |none=>exact Z.elim
    |some e=>
     have hne:d≠e:=fun h=>hd (by rw [h]);cases sh with
     |true=>exact fun i hi=>⟨hN.BL (dst:=some e) (v:= .gp i 0) rfl,by have:=Z i hi;rw [show put e (.gp i 0) (put d (.lp d 0) F)=put d (.lp d 0) (put e (.gp i 0) F) from Ea (dst:=some e) hd _ _ _] at this;exact this⟩
     |false=>
      refine ⟨(hN.Dp e).BL (dst:=some e) (v:= .lp e 0) (by simp [AV.CL];exact A6 hne),?_⟩;have Z:K (put e (.lp e 0) (Dp e (put d (.lp d 0) F))) (At e y (At d z L)) Y:=Z;rw [Y5 hne,kX (A6 hne),show put e (.lp e 0) (put d (.lp d 0) (Dp e F))=put d (.lp d 0) (put e (.lp e 0) (Dp e F)) from Ea (dst:=some e) hd _ _ _] at Z;exact Z
   case st x y n=>
    simp only [XO,XSt] at Z ⊢;rw [BY (F:=put d (.lp d 0) F) (F':=F) (fun s hs=>hF s (.inl hs)),BY (F:=put d (.lp d 0) F) (F':=F) (fun s hs=>hF s (.inr hs))] at Z;obtain ⟨h1,h2,h3,h4⟩:=Z;refine ⟨h1,h2,h3,?_⟩;have hp:=Yy hN hc;generalize xv F x=p at hp h4;cases p<;>simp only [stA] at h4 ⊢<;>try (exact h4.elim)
    . rename_i k o2;have hk:k≠d:=by simpa [AV.CL] using hp
      rw [ABA hk] at h4;cases hL:L k with
      |none=>rw [hL] at h4;exact h4.elim
      |some cs=>
       rw [hL] at h4;simp only [E6] at h4 ⊢;by_cases hle:o2+(xv F y).cells.length<=cs.length
       . rw [if_pos hle] at h4 ⊢;refine ⟨hN,?_⟩;have h4:K (put d (.lp d 0) F) (At k (wr cs o2 (xv F y).cells) (At d z L)) Y:=h4;rw [kX hk] at h4;exact h4
       . rw [if_neg hle] at h4;exact h4.elim
    . rename_i i o2;cases hb:Y.blk i with
      |none=>rw [hb] at h4;exact h4.elim
      |some cs=>
       rw [hb] at h4;simp only [E6] at h4 ⊢;by_cases hle:o2+(xv F y).cells.length<=cs.length
       . rw [if_pos hle] at h4 ⊢;exact ⟨hN,h4⟩
       . rw [if_neg hle] at h4;exact h4.elim
   case msl e s b y l c=>
    obtain ⟨k,k',n,h1,h2,h3,h4,h5,h6⟩:=Z;refine ⟨k,k',n,by rw [<- BY (fun s hs=>hF s (.inl hs))];exact h1,by rw [<- BY (fun s hs=>hF s (.inr hs))];exact h2,h3,h4,h5,fun i hi=>⟨hN.BL rfl,?_⟩⟩;rw [<- Ea hd];exact h6 i hi
   case app e s b x y=>
    rcases Z with ⟨rows,σ1,srows,h1,h2,h3,h4,h5,h6⟩|⟨rows,srows,h1,h2,h3,h4,h5,h6,h7⟩
    . refine .inl ⟨rows,σ1,srows,by rw [<- BY (fun s hs=>hF s (.inl hs))];exact h1,by rw [<- BY (fun s hs=>hF s (.inr hs))];exact h2,h3,h4,h5,fun t ht=>⟨hN.BL rfl,?_⟩⟩;rw [<- Ea hd];exact h6 t ht
    . refine .inr ⟨rows,srows,by rw [<- BY (fun s hs=>hF s (.inl hs))];exact h1,by rw [<- BY (fun s hs=>hF s (.inr hs))];exact h2,h3,h4,h5,h6,⟨hN.BL rfl,?_⟩⟩;rw [<- Ea hd];exact h7
   case uV e s b x y=>
    obtain ⟨n,cs,σ1,srows,h1,h2,h3,h4,h5,h6,h7⟩:=Z;refine ⟨n,cs,σ1,srows,by rw [<- BY (fun s hs=>hF s (.inl hs))];exact h1,by rw [<- BY (fun s hs=>hF s (.inr hs))];exact h2,h3,fun e=>⟨hN.BL ?_,?_⟩,h5,h6,fun e t ht=>⟨hN.BL rfl,?_⟩⟩
    . unfold OI at h1;rw [<- BY (fun s hs=>hF s (.inl hs))];generalize xv _ x=xx at h1;cases xx<;>first|rfl|(cases h1;done)
    . rw [<- Ea hd,<- BY (fun s hs=>hF s (.inl hs))];exact h4 e
    . rw [<- Ea hd];exact h7 e t ht
   case trn x y=>
    obtain ⟨k,s,e,cs,σ1,h1,h2⟩:=Z;refine ⟨k,s,e,cs,σ1,by rw [<- BY (fun s hs=>hF s (.inl hs)),<- BY (fun s hs=>hF s (.inr hs))];exact h1,fun t ht=>⟨hN.BL rfl,?_⟩⟩;rw [<- Ea hd];exact h2 t ht
   case mW e s l y ps=>
    obtain ⟨cs,h1,h2⟩:=Z;refine ⟨cs,by rw [<- RW _ _ hF];exact h1,h2.imp (fun h2 t ht=>⟨hN.BL rfl,?_⟩) fun ⟨ds,h3,h5⟩=>⟨ds,h3,fun t ht=>⟨hN.BL rfl,?_⟩⟩⟩
    . rw [<- Ea hd];exact h2 t ht
    . rw [<- Ea hd];exact h5 t ht
   case call f args=>
    obtain ⟨h1,R,h2,h3⟩:=Z;rw [Hb hF] at h1 h2;refine ⟨h1,_,h2.CL d,fun u σ' hv=>⟨hN.BL hv.2,?_⟩⟩;rw [<- Ea hd];exact h3 u σ' hv.1
   case aR x args=>
    obtain ⟨f,first,caps,h0,hb,h1,R,h2,h3⟩:=Z;rw [Hb (fun s hs=>hF s (.inr hs))] at h1 h2;refine ⟨f,first,caps,by rw [<- BY (fun s hs=>hF s (.inl hs))];exact h0,hb,h1,_,h2.CL d,fun u σ' hv=>⟨hN.BL hv.2,?_⟩⟩;rw [<- Ea hd];exact h3 u σ' hv.1
   case fT s x y z=>cases hc
   case ex k xs=>
    simp only [XO,XEx,hV,A1,if_false] at Z ⊢;rw [Hb hF] at Z;refine ⟨Z.1,Z.2.mono fun u σ' hu hv=>⟨hN.BL (hu d),?_⟩⟩;rw [<- Ea hd];exact hv
def AXU (hN:Off d F) (hc:ZC q.o=true) (hl:∀s∈q.looks,s≠d) (hd:q.dst≠some d) (Z:XQ P q K (put d (.lp d 0) F) (At d z L) Y):
 XQ P q (fun F' L' σ'=>Off d F'/\K (put d (.lp d 0) F') (At d z L') σ') F L Y:=by
 have h1:∀s∈Ky q.o,s≠d:=fun s hs=>hl s (by simp [Q.looks,hs]);unfold XQ at Z ⊢;rw [rI (F:=put d (.lp d 0) F) (F':=F) (fun s hs=>by simp [put,hl s hs])] at Z;cases hc2:gd F q.grd with
 |none=>rw [hc2] at Z;exact Z.elim
 |some b=>
  rw [hc2] at Z;cases b
  . have Z:K (BL q.dst (.tup []) (put d (.lp d 0) F)) (At d z L) Y:=Z;rw [Ea hd] at Z;exact ⟨hN.BL rfl,Z⟩
  . exact AXS hN hc h1 hd Z
def AN8 (h:Off d F):Dp d F=F:=by
 funext s;simp [Dp,h s]
def AXF (tab:Array Nat) (qs:List Q) (i d:Nat):Bool:=
 qs.zipIdx.all fun (qj,j)=>j==i||(tab.getD j 0).testBit i||(ZC qj.o&& !qj.looks.contains d&&qj.dst != some d)
def AWK {tab:Array Nat} (htab:∀j i,(tab.getD j 0).testBit i=true->Anc ops j i) (hi:qs[i]?=some ⟨some d,.al z false,none⟩) (hz:Ax z=true) (hlay:AXF tab qs i d=true):
 ∀(fuel:Nat) (listed:Array Bool) (F:Fm) (L:Lm) (Y:AH),K9 ops listed->listed.size=ops.size->i∈Region.ready .any ops listed->Off d F->
  iD P ops qs K fuel (listed.setIfInBounds i true) (put d (.lp d 0) F) (At d z L) Y->iD P ops qs K (fuel+1) listed F L Y:=by
 have hself:∀(K2:CW) (F:Fm) (L:Lm) (Y:AH),Off d F->K2 (put d (.lp d 0) F) (At d z L) Y->XQ P ⟨some d,.al z false,none⟩ K2 F L Y:=fun K2 F L Y hN h=>by
  show Z0 z false (some d) K2 F L Y;refine ⟨hz,?_⟩;show K2 (put d (.lp d 0) (Dp d F)) (At d z L) Y;rw [AN8 hN];exact h
 intro fuel
 induction fuel with
 |zero=>
  intro listed F L Y hcl hsz hr hN H;refine ⟨fun h=>(by rw [h] at hr;cases hr),fun j hj=>?_⟩;by_cases hji:i=j
  . subst hji;exact ⟨_,hi,hself _ _ _ _ hN H⟩
  . have:=UA hj hji;rw [H.1] at this;cases this
 |succ fuel ih=>
  intro listed F L Y hcl hsz hr hN H;refine ⟨fun h=>(by rw [h] at hr;cases hr),fun j hj=>?_⟩;by_cases hji:i=j
  . subst hji;exact ⟨_,hi,hself _ _ _ _ hN H⟩
  . obtain ⟨qj,hqj,hxj⟩:=H.2 j (UA hj hji);obtain ⟨hjlt,hjun,oj,hoj,hjall⟩:=M7.1 hj;have hiun:=(M7.1 hr).2.1;have hilt:=(M7.1 hr).1;have hmem:(qj,j)∈qs.zipIdx:=by rw [ZY];exact hqj
    have hb:=Aj.1 hlay (qj,j) hmem;simp only [Cb,beq_iff_eq,AO,Br,bne_iff_ne] at hb;rcases hb with (hb|hanc)|⟨⟨hc,hlk⟩,hdst⟩
    . exact absurd hb.symm hji
    . have h1:=pU hcl (htab j i hanc) (fun o ho=>by rw [hoj] at ho;cases ho;exact hjall);rw [DI,OF (by omega)] at h1 hiun;simp at h1 hiun;rw [h1] at hiun;cases hiun
    . refine ⟨qj,hqj,?_⟩;have hlk':∀s∈qj.looks,s≠d:=fun s hs he=>by subst he;rw [<- Bool.not_eq_true,Ar] at hlk;exact hlk hs
      have hcomm:(listed.setIfInBounds i true).setIfInBounds j true=(listed.setIfInBounds j true).setIfInBounds i true:=Array.setIfInBounds_comm _ _ hji;refine U2 (fun F' L' σ' h=>?_) (AXU hN hc hlk' hdst hxj);refine ih _ F' L' σ' (hcl.set hj) (by simpa using hsz) (UA hr (A6 hji)) h.1 ?_;rw [<- hcomm];exact h.2
def Sq:List Nat->Fm->Fm
 |[],F=>F
 |d::ds,F=>Sq ds (Dp d F)
def mG:∀(ds:List Nat) (F:Fm) (s:Nat),Sq ds F s=F s\/Sq ds F s= .undef
 |[],F,s=>.inl rfl
 |d::ds,F,s=>by
  rcases mG ds (Dp d F) s with h|h
  . rw [Sq,h];simp only [Dp];split<;>simp
  . exact .inr h
def sV:∀(ds:List Nat) (F:Fm) (d:Nat),(d∈ds\/Off d F)->Off d (Sq ds F)
 |[],F,d,h=>by
  rcases h with h|h
  . cases h
  . exact h
 |e::ds,F,d,h=>by
  refine sV ds (Dp e F) d ?_;rcases h with h|h
  . cases h with
    |head=>exact .inr (yO _ F)
    |tail _ h=>exact .inl h
  . exact .inr (h.Dp e)
def sW:∀(ds:List Nat) (F:Fm) (d:Nat),d ∉ ds->Sq ds (put d (.lp d 0) F)=put d (.lp d 0) (Sq ds F)
 |[],F,d,_=>rfl
 |e::ds,F,d,h=>by
  simp only [Az,not_or] at h;simp only [Sq];rw [Y5 h.1,sW ds _ d h.2]
def UP:PT->List Nat×PT
 | .lay i t=>(i::(UP t).1,(UP t).2)
 |t=>([],t)
def AQ8 (qs:List Q):List Nat->Option (List (Nat×Nat×List AV))
 |[]=>some []
 |i::l=>match qs[i]? with
  |some ⟨some d,.al z false,none⟩=>if Ax z then (AQ8 qs l).map ((i,d,z)::·) else none
  |_=>none
def kI (ops:Array Oper) (tab:Array Nat) (qs:List Q):List (Nat×Nat×List AV)->Array Bool->Bool
 |[],_=>true
 |(i,d,_)::r,listed=>(Region.ready .any ops listed).contains i&&AXF tab qs i d&& !(r.map (·.2.1)).contains d&&kI ops tab qs r (listed.setIfInBounds i true)
def tR:List Nat->Array Bool->Array Bool
 |[],a=>a
 |i::l,a=>tR l (a.setIfInBounds i true)
def AYV:List (Nat×Nat×List AV)->Fm->Fm
 |[],F=>F
 |(_,d,_)::r,F=>AYV r (put d (.lp d 0) (Dp d F))
def AYW:List (Nat×Nat×List AV)->Lm->Lm
 |[],L=>L
 |(_,d,z)::r,L=>AYW r (At d z L)
def zG {ops:Array Oper} {tab:Array Nat} (htab:∀j i,(tab.getD j 0).testBit i=true->Anc ops j i) {qs:List Q} {n:Nat}:∀(ls:List (Nat×Nat×List AV)) (listed:Array Bool) (F:Fm) (L:Lm) (Y:AH),
 (∀x∈ls,qs[x.1]?=some ⟨some x.2.1,.al x.2.2 false,none⟩/\Ax x.2.2=true)->kI ops tab qs ls listed=true->K9 ops listed->listed.size=ops.size->
 iD P ops qs K n (tR (ls.map (·.1)) listed) (AYV ls F) (AYW ls L) Y->iD P ops qs K (n+ls.length) listed (Sq (ls.map (·.2.1)) F) L Y
 |[],listed,F,L,Y,_,_,_,_,h=>h
 |(i,d,z)::r,listed,F,L,Y,hq,hok,hcl,hsz,h=>by
  simp only [kI,AO,Ar,Br] at hok;obtain ⟨⟨⟨hr,hlay⟩,hnd⟩,hrest⟩:=hok;have hnd':d ∉ r.map (·.2.1):=fun hm=>by rw [<- Bool.not_eq_true,Ar] at hnd;exact hnd hm
  obtain ⟨hi,hz⟩:=hq (i,d,z) (by simp);have ih:=zG htab (n:=n) r (listed.setIfInBounds i true) (put d (.lp d 0) (Dp d F)) (At d z L) Y (fun x Z=>hq x (by simp [Z])) hrest (hcl.set hr) (by simpa using hsz) h;rw [sW _ _ _ hnd'] at ih;exact AWK htab hi hz hlay (n+r.length) listed _ L Y hcl hsz hr (sV (r.map (·.2.1)) (Dp d F) d (.inr (yO d F))) ih
def bC {ops:Array Oper} {tab:Array Nat} {qs:List Q}:∀(ls:List (Nat×Nat×List AV)) (listed:Array Bool),kI ops tab qs ls listed=true->K9 ops listed->listed.size=ops.size->K9 ops (tR (ls.map (·.1)) listed)/\(tR (ls.map (·.1)) listed).size=ops.size
 |[],listed,_,hc,hs=>⟨hc,hs⟩
 |(i,d,z)::r,listed,hok,hcl,hsz=>by
  simp only [kI,AO,Ar] at hok;exact bC r _ hok.2 (hcl.set hok.1.1.1) (by simpa using hsz)
def AKT (ls:List (Nat×Nat×List AV)) (t:QT):QT:=ls.foldr (fun x acc=>.one ⟨some x.2.1,.al x.2.2 false,none⟩ acc) t
def AEE:∀(ls:List (Nat×Nat×List AV)) (t:QT) (F:Fm) (L:Lm),XT P K false (AKT ls t) F L Y->XT P K false t (AYV ls F) (AYW ls L) Y
 |[],t,F,L,h=>h
 |(i,d,z)::r,t,F,L,h=>by
  have h:XQ P ⟨some d,.al z false,none⟩ (XT P K false (AKT r t)) F L Y:=h;have h:Z0 z false (some d) (XT P K false (AKT r t)) F L Y:=h;exact AEE r t _ _ h.2
def qK (P:Program) (N:Nat) (esc:List Nat) (pf:List FuncId) (pt:PT) (ops:Array Oper):Option QT:=do
 let qs <- P3 P N esc ops (Av ops.size)
 let qs:=qs.map (toP pf)
 let tab:=iG ops.toList #[]
 let ls <- AQ8 qs (UP pt).1
 let l0:=FM ops.size false
 if kI ops tab qs ls l0&&Ps ops tab qs (UP pt).2 (tR (ls.map (·.1)) l0) none&&decide ((UP pt).2.depth+ls.length<=ops.size) then (gF qs (UP pt).2).map (AKT ls) else none
def yH {qs:List Q}:∀(l:List Nat) (ls:List (Nat×Nat×List AV)),AQ8 qs l=some ls->∀x∈ls,qs[x.1]?=some ⟨some x.2.1,.al x.2.2 false,none⟩/\Ax x.2.2=true
 |[],ls,h,x,Z=>by simp only [AQ8,AM] at h;subst h;cases Z
 |i::l,ls,h,x,Z=>by
  simp only [AQ8] at h;split at h
  . rename_i d z hq;split at h
    . rename_i hz;simp only [AK] at h;obtain ⟨r,hr,rfl⟩:=h;cases Z with
      |head=>exact ⟨hq,hz⟩
      |tail _ Z=>exact yH l r hr x Z
    . cases h
  . cases h
def xG {ops:Array Oper} {qs:List Q}:∀(n m:Nat) (listed:Array Bool) (F:Fm) (L:Lm) (Y:AH),n<=m->iD P ops qs K n listed F L Y->iD P ops qs K m listed F L Y
 |0,0,listed,F,L,Y,_,h=>h
 |0,m+1,listed,F,L,Y,_,h=>⟨fun _=>h.2,fun i hi=>by rw [h.1] at hi;cases hi⟩
 |n+1,0,listed,F,L,Y,hle,h=>by omega
 |n+1,m+1,listed,F,L,Y,hle,h=>⟨h.1,fun i hi=>by
  obtain ⟨q,hq,Z⟩:=h.2 i hi;exact ⟨q,hq,U2 (fun F L Y h=>xG n m _ F L Y (by omega) h) Z⟩⟩
def Bh.AbP (h:Bh base g lam Pr N F L Y a w0 w) {F':Fm} (hF:∀s,F' s=F s\/F' s= .undef):Bh base g lam Pr N F' L Y a w0 w:=by
 refine ⟨fun s=>?_,h.sz,h.df,h.loc,h.inj,h.npr,h.rel⟩;rcases hF s with e|e
 . rw [e];exact h.tm s
 . rw [e];exact VR.undef
def lY {esc:List Nat} {pt:PT} {qt:QT} (hm:P.follows .mixedOrders=true) (hc:qK P N esc pf pt ops=some qt) (Z:XT P K false qt F L Y)
 (h:Bh base g lam Pr N F L Y a w0 w) :(Code.region id ops true).wp P (fun e a' w'=>e= .normal/\FL base Pr N w0 g w K a' w') a w:=by
 simp only [qK,AT,AB] at hc;obtain ⟨qs0,hq0,ls,hls,hc⟩:=hc;split at hc
 case isFalse=>cases hc
 rename_i hp;simp only [AO,decide_eq_true_eq] at hp;simp only [AK] at hc;obtain ⟨t,ht,rfl⟩:=hc
 have hcl:K9 ops (FM ops.size false):=by
  intro j o ho hj
  have:(FM ops.size false).getD j false=false:=by
   simp only [DI,Array.getElem?_replicate];split<;>rfl
  rw [this] at hj;cases hj
 obtain ⟨hcl2,hsz2⟩:=bC ls _ hp.1.1 hcl (by simp);have hx2:=AEE ls t F L Z;have hany1:=(pJ (P:=P) (K:=K) (fun j i=>lJ) _ t ht).1 _ _ _ _ Y (AS _) hp.1.2 hcl2 hsz2 hx2;have hany2:=zG (P:=P) (K:=K) (tab:=iG ops.toList #[]) (fun j i=>lJ) ls _ F L Y (yH _ ls hls) hp.1.1 hcl (by simp) hany1;have hany:=xG _ ops.size _ _ _ _ hp.2 hany2;refine wp_region_any hm ?_;have hF:=h.AbP (mG (ls.map (·.2.1)) F)
 have hdrew:Bh base g lam Pr N (Sq (ls.map (·.2.1)) F) L Y a w0 { w with drawn:=w.drawn+1}:=
  hF.step (w':=w.drew) (Gh.le_refl g) (fun k b hb=>rfl) (hF.rel.grow (w':=w.drew) (AS _) (fun _ _ _=>rfl) ((Below.refl base w).drew) (fun b hb=>⟨(hF.rel.pr b hb).1,.inl hb⟩))
 exact dT hq0 K _ _ base g lam Pr _ L Y a w0 _ hany hdrew (fun a' w' hA=>⟨rfl,FL.trans (Gh.le_refl g) ⟨AS _,fun _ _=>rfl⟩ hA⟩)
def lin:QT->Option (List Q)
 | .done=>some []
 | .one q t=>(lin t).map (q::·)
 | .alt _ _ _=>none
def ARD:∀(t:QT) (ops:List Q) (F:Fm) (L:Lm) (Y:AH),lin t=some ops->B6 P K ops F L Y->XT P K false t F L Y
 | .done,ops,F,L,Y,h,Z=>by simp only [lin,AM] at h;subst h;exact Z
 | .one q t,ops,F,L,Y,h,Z=>by
  simp only [lin,AK] at h;obtain ⟨l,hl,rfl⟩:=h;exact U2 (fun F L Y h=>ARD t l F L Y hl h) Z
 | .alt _ _ _,ops,F,L,Y,h,_=>by simp [lin] at h
inductive C where
 |skip
 |reg (ops:List Q) (live:List Nat)
 |IX (t:QT) (live:List Nat)
 |seq (x y:C)
 |cond (x:X) (t e:C)
 |block (id:Nat) (c:C)
 |loop (c:C)
 |exit (id:Nat)
 |ret
 |scope (c:C)
 |bad
inductive CI where
 |code (c:C)
 |blk (id:Nat)
 |scp
 |again (c:C)
variable {k':List CI}
def AGP (P:Program) (N:Nat) (esc:List Nat) (pf:List FuncId) (live:List Nat) (pt:PT) (ops:Array Oper):Option C:=
 match pt with
 | .done=>(AJU P N esc pf (Av ops.size) ops).map fun q=>.reg q live
 |pt=>(qK P N esc pf pt ops).map fun t=>match lin t with
  |some q=>.reg q live
  |none=>.IX t live
def Hm (P:Program) (N:Nat) (esc:List Nat) (pf:List FuncId):Code->List (List Nat×PT)->Option (C×List (List Nat×PT))
 | .skip,ct=>some (.skip,ct)
 | .region _ ops false,(live,_)::ct=>some (((P3 P N esc ops (Av ops.size)).map fun q=>C.reg q live).getD .bad,ct)
 | .region _ ops true,(live,pt)::ct=>some ((AGP P N esc pf live pt ops).getD .bad,ct)
 | .seq x y,ct=>(Hm P N esc pf x ct).bind fun r=>(Hm P N esc pf y r.2).map fun r'=>(.seq r.1 r'.1,r'.2)
 | .cond c t e,ct=>(xo c).bind fun c'=>(Hm P N esc pf t ct).bind fun r=>(Hm P N esc pf e r.2).map fun r'=>(.cond c' r.1 r'.1,r'.2)
 | .block id c,ct=>(Hm P N esc pf c ct).map fun r=>(.block id r.1,r.2)
 | .loop c,ct=>(Hm P N esc pf c ct).map fun r=>(.loop r.1,r.2)
 | .exit id,ct=>some (.exit id,ct)
 | .ret,ct=>some (.ret,ct)
 | .scope c,ct=>(Hm P N esc pf c ct).map fun r=>(.scope r.1,r.2)
 | .label _,ct=>some (.skip,ct)
 |_,_=>none
inductive RV where
 |t (n:Nat)
 |c (n:Nat) (k:Option Nat)
def lV (P:Program):List ResultVar->Option (List RV)
 |[]=>some []
 | .tmp n::l=>do some (.t n::(<- lV P l))
 | .cell n t::l=>do
  let k <- ldN P t
  some (.c n k::(<- lV P l))
def rvA (F:Fm) (L:Lm) (Y:AH):RV->Option AV
 | .t n=>some (F n)
 | .c n k=>ldA L Y (F n) k
def AI1 (F:Fm) (L:Lm) (Y:AH):List RV->Option (List AV)
 |[]=>some []
 |r::l=>do some ((<- rvA F L Y r)::(<- AI1 F L Y l))
def dL (F:Fm) (L:Lm) (Y:AH) (rs:List RV):Option AV:=
 (AI1 F L Y rs).bind fun vs=>if vs.all AV.BS then (match vs with|[v]=>some v|vs=>some (.tup vs)) else none
def Gw (ks:List Nat) (F:Fm):Fm:=fun s=>if s∈ks then F s else .undef
def Fp (ks:List Nat) (L:Lm):Lm:=fun s=>if s∈ks then L s else none
variable {P:Program} {base N:Nat} {g g':Gh} {Pr:Nat->Prop} {Y σ':AH} {w0 w w':World} {lam:Nat->Option Nat} {F F':Fm} {L L':Lm} {a:Act}
def Bh.AO2 (h:Bh base g lam Pr N F L Y a w0 w) (hF:∀s,F' s=F s\/F' s= .undef) (hL:∀k cs,L' k=some cs->L k=some cs) (hσ:σ'.le Y):Bh base g lam Pr N F' L' σ' a w0 w:=by
 refine ⟨fun s=>?_,h.sz,h.df,fun k cs hk=>h.loc k cs (hL k cs hk),h.inj,h.npr,h.rel.less hσ⟩;rcases hF s with e|e
 . rw [e];exact h.tm s
 . rw [e];exact VR.undef
def Bh.kept (h:Bh base g lam Pr N F L Y a w0 w) (ks:List Nat):Bh base g lam Pr N (Gw ks F) (Fp ks L) Y a w0 w:=
 h.AO2 (fun s=>by simp only [Gw];split<;>simp) (fun k cs hk=>by simp only [Fp] at hk;split at hk<;>simp_all) (AH.le_refl Y)
structure Cx where
 P:Program
 f:FuncId
 fn:Func
 N:Nat
 esc:List Nat
 pf:List FuncId
 rs:List RV
def RC (cx:Cx):C->Code->Prop
 | .skip,k=>k= .skip\/∃l,k= .label l
 | .scope c,k=>∃p,k= .scope p/\RC cx c p
 | .reg ops _,k=>∃id arr,(k= .region id arr false/\P3 cx.P cx.N cx.esc arr (Av arr.size)=some ops)\/(k= .region id arr true/\∃order,AJU cx.P cx.N cx.esc cx.pf order arr=some ops)\/(k= .region id arr true/\∃pt t,qK cx.P cx.N cx.esc cx.pf pt arr=some t/\lin t=some ops)
 | .IX t _,k=>∃id arr pt,k= .region id arr true/\qK cx.P cx.N cx.esc cx.pf pt arr=some t
 | .seq x y,k=>∃p q,k= .seq p q/\RC cx x p/\RC cx y q
 | .cond x t e,k=>∃c p q,k= .cond c p q/\xo c=some x/\RC cx t p/\RC cx e q
 | .block id c,k=>∃p,k= .block id p/\RC cx c p
 | .loop c,k=>∃p,k= .loop p/\RC cx c p
 | .exit id,k=>k= .exit id
 | .ret,k=>k= .ret
 | .bad,_=>True
def Ms (cx:Cx):∀(k:Code) (ct:List (List Nat×PT)) (c:C) (ct':List (List Nat×PT)),Hm cx.P cx.N cx.esc cx.pf k ct=some (c,ct')->RC cx c k
 | .skip,ct,c,ct',h=>by simp only [Hm,AM,BZ] at h;rw [<- h.1];exact .inl rfl
 | .region id ops dr,ct,c,ct',h=>by
  cases ct with
  |nil=>cases dr<;>simp only [Hm] at h<;>cases h
  |cons lo ct=>
   obtain ⟨live,order⟩:=lo;cases dr
   . simp only [Hm,AM,BZ] at h;obtain ⟨rfl,_⟩:=h;cases hq:P3 cx.P cx.N cx.esc ops (Av ops.size) with
     |none=>exact trivial
     |some qs=>exact ⟨id,ops,.inl ⟨rfl,hq⟩⟩
   . simp only [Hm,AM,BZ] at h;obtain ⟨rfl,_⟩:=h;cases hq:AGP cx.P cx.N cx.esc cx.pf live order ops with
     |none=>exact trivial
     |some c'=>
     simp only [BA];unfold AGP at hq;split at hq
     . simp only [AK] at hq;obtain ⟨qs,hq',rfl⟩:=hq;exact ⟨id,ops,.inr (.inl ⟨rfl,_,hq'⟩)⟩
     . simp only [AK] at hq;obtain ⟨t,ht,rfl⟩:=hq;cases hl:lin t with
       |some q=>exact ⟨id,ops,.inr (.inr ⟨rfl,_,t,ht,hl⟩)⟩
       |none=>exact ⟨id,ops,_,rfl,ht⟩
 | .seq x y,ct,c,ct',h=>by
  simp only [Hm,AB,AK,BZ] at h;obtain ⟨⟨x',c1⟩,Z,⟨y',c2⟩,hy,rfl,_⟩:=h;exact ⟨x,y,rfl,Ms cx x _ _ _ Z,Ms cx y _ _ _ hy⟩
 | .cond c t e,ct,c2,ct',h=>by
  simp only [Hm,AB,AK,BZ] at h;obtain ⟨x,Z,⟨t',c1⟩,ht,⟨e',c3⟩,he,rfl,_⟩:=h;exact ⟨c,t,e,rfl,Z,Ms cx t _ _ _ ht,Ms cx e _ _ _ he⟩
 | .block id p,ct,c,ct',h=>by
  simp only [Hm,AK,BZ] at h;obtain ⟨⟨c',c1⟩,hc,rfl,_⟩:=h;exact ⟨p,rfl,Ms cx p _ _ _ hc⟩
 | .loop p,ct,c,ct',h=>by
  simp only [Hm,AK,BZ] at h;obtain ⟨⟨c',c1⟩,hc,rfl,_⟩:=h;exact ⟨p,rfl,Ms cx p _ _ _ hc⟩
 | .exit id,ct,c,ct',h=>by simp only [Hm,AM,BZ] at h;rw [<- h.1];rfl
 | .ret,ct,c,ct',h=>by simp only [Hm,AM,BZ] at h;rw [<- h.1];rfl
 | .rangeFunc ..,ct,c,ct',h=>by simp only [Hm] at h;cases h
 | .scope p,ct,c,ct',h=>by
  simp only [Hm,AK,BZ] at h;obtain ⟨⟨c',c1⟩,hc,rfl,_⟩:=h;exact ⟨p,rfl,Ms cx p _ _ _ hc⟩
 | .label l,ct,c,ct',h=>by simp only [Hm,AM,BZ] at h;rw [<- h.1];exact .inr ⟨l,rfl⟩
 | .goto _,ct,c,ct',h=>by simp only [Hm] at h;cases h
 | .refuse _,ct,c,ct',h=>by simp only [Hm] at h;cases h
def RI (cx:Cx):CI->Item->Prop
 | .code c,y=>∃k,y= .code k/\RC cx c k
 | .blk id,y=>y= .inBlock id
 | .scp,y=>∃k,y= .inScope k
 | .again c,y=>∃k,y= .inLoop k/\RC cx c k
inductive RIs (cx:Cx):List CI->List Item->Prop
 |nil:RIs cx [] []
 |cons {x:CI} {y:Item} {xs:List CI} {ys:List Item} (h:RI cx x y) (hs:RIs cx xs ys):RIs cx (x::xs) (y::ys)
class Good (cx:Cx):Prop where
 gA:cx.P.funcs[cx.f]?=some cx.fn
 gB:lV cx.P cx.fn.results.toList=some cx.rs
 gC:cx.P.follows .mixedOrders=true
def Run (cx:Cx) (K:AV->AH->Prop) (todo:List CI) (F:Fm) (L:Lm) (Y:AH):Prop:=
 ∀(items:List Item) (base:Nat) (g:Gh) (lam:Nat->Option Nat) (Pr:Nat->Prop) (a:Act) (w0 w:World) (b:Frame) (cs:List Frame),
  RIs cx todo items->Bh base g lam Pr cx.N F L Y a w0 w->b.fn=cx.f->b.kind= .normal->
  ∃v w' fr,Steps cx.P (lone (b.at a items) cs w) (lone fr cs w')/\fr.fn=cx.f/\fr.leaving cx.P w' (.returned v)/\
   ∃av g' σ',VR g' av v/\Rel base g' Pr σ' w0 w'/\g.le g'/\KP Pr w w'/\K av σ'
variable {cx:Cx} {K:AV->AH->Prop} {k:List CI}
def Run.AO2 (hF:∀s,F' s=F s\/F' s= .undef) (hL:∀k cs,L' k=some cs->L k=some cs) (hσ:σ'.le Y) (h:Run cx K k F' L' σ'):Run cx K k F L Y:=
 fun items base g lam Pr a w0 w b cs hi hf hb hk=>h items base g lam Pr a w0 w b cs hi (hf.AO2 hF hL hσ) hb hk
def Run.Oq 
 (hs:∀items,RIs cx k items->∃items',RIs cx k' items'/\∀(b:Frame) (a:Act) (cs:List Frame) (w:World),step cx.P (lone (b.at a items) cs w)= .next (lone (b.at a items') cs w))
 (h:Run cx K k' F L Y):Run cx K k F L Y:=by
 intro items base g lam Pr a w0 w b cs hi hf hb hk;obtain ⟨items',hi',hst⟩:=hs items hi;obtain ⟨v,w',fr,hss,rest⟩:=h items' base g lam Pr a w0 w b cs hi' hf hb hk;exact ⟨v,w',fr,.head (hst b a cs w) hss,rest⟩
def RIs.code {c:C} {items:List Item} (h:RIs cx (.code c::k) items):∃p ys,items= .code p::ys/\RC cx c p/\RIs cx k ys:=by
 cases h with
 |cons hy hys=>obtain ⟨p,rfl,hp⟩:=hy;exact ⟨p,_,rfl,hp,hys⟩
def RIs.Oo {c:C} {p:Code} {ys:List Item} (hc:RC cx c p) (h:RIs cx k ys):RIs cx (.code c::k) (.code p::ys):= .cons ⟨p,rfl,hc⟩ h
def Run.skip (h:Run cx K k F L Y):Run cx K (.code .skip::k) F L Y:=
 h.Oq fun items hi=>by
  obtain ⟨p,ys,rfl,hp,hys⟩:=hi.code;rcases hp with rfl|⟨l,rfl⟩
  . exact ⟨ys,hys,fun b a cs w=>step_skip⟩
  . exact ⟨ys,hys,fun b a cs w=>step_label⟩
def Run.scope {c:C} (h:Run cx K (.code c::.scp::k) F L Y):Run cx K (.code (.scope c)::k) F L Y:=
 h.Oq fun items hi=>by
  obtain ⟨p,ys,rfl,⟨p1,rfl,h1⟩,hys⟩:=hi.code;exact ⟨_,.Oo h1 (.cons ⟨p1,rfl⟩ hys),fun b a cs w=>step_scope⟩
def Run.scp (h:Run cx K k F L Y):Run cx K (.scp::k) F L Y:=
 h.Oq fun items hi=>by
  cases hi with
  |cons hy hys=>obtain ⟨p,rfl⟩:=hy;exact ⟨_,hys,fun b a cs w=>step_inScope⟩
def Run.seq {x y:C} (h:Run cx K (.code x::.code y::k) F L Y):Run cx K (.code (.seq x y)::k) F L Y:=
 h.Oq fun items hi=>by
  obtain ⟨p,ys,rfl,⟨p1,p2,rfl,h1,h2⟩,hys⟩:=hi.code;exact ⟨_,.Oo h1 (.Oo h2 hys),fun b a cs w=>step_seq⟩
def Run.block {c:C} (h:Run cx K (.code c::.blk id::k) F L Y):Run cx K (.code (.block id c)::k) F L Y:=
 h.Oq fun items hi=>by
  obtain ⟨p,ys,rfl,⟨p1,rfl,h1⟩,hys⟩:=hi.code;exact ⟨_,.Oo h1 (.cons rfl hys),fun b a cs w=>step_block⟩
def Run.blk (h:Run cx K k F L Y):Run cx K (.blk id::k) F L Y:=
 h.Oq fun items hi=>by
  cases hi with
  |cons hy hys=>cases hy;exact ⟨_,hys,fun b a cs w=>step_inBlock⟩
def Run.loop {c:C} (h:Run cx K (.code c::.again c::k) F L Y):Run cx K (.code (.loop c)::k) F L Y:=
 h.Oq fun items hi=>by
  obtain ⟨p,ys,rfl,⟨p1,rfl,h1⟩,hys⟩:=hi.code;exact ⟨_,.Oo h1 (.cons ⟨p1,rfl,h1⟩ hys),fun b a cs w=>step_loop⟩
def Run.again {c:C} (h:Run cx K (.code c::.again c::k) F L Y):Run cx K (.again c::k) F L Y:=
 h.Oq fun items hi=>by
  cases hi with
  |cons hy hys=>obtain ⟨p1,rfl,h1⟩:=hy;exact ⟨_,.Oo h1 (.cons ⟨p1,rfl,h1⟩ hys),fun b a cs w=>step_inLoop⟩
def Hz (id:Nat):List CI->Option (List CI)
 | .blk id'::k=>if id'=id then some k else Hz id k
 |_::k=>Hz id k
 |[]=>none
def Mv {id:Nat}:∀(k:List CI) (items:List Item) (k':List CI),RIs cx k items->Hz id k=some k'->∃items',exitTo id items=some items'/\RIs cx k' items'
 |[],_,_,_,h=>by cases h
 |x::k,items,k',hi,h=>by
  cases hi with
  |@cons _ y _ ys hy hys=>
   cases x with
   |code c=>
    obtain ⟨p,rfl,_⟩:=hy;obtain ⟨i',h1,h2⟩:=Mv k ys k' hys (by simpa [Hz] using h);exact ⟨i',by simpa [exitTo] using h1,h2⟩
   |again c=>
    obtain ⟨p,rfl,_⟩:=hy;obtain ⟨i',h1,h2⟩:=Mv k ys k' hys (by simpa [Hz] using h);exact ⟨i',by simpa [exitTo] using h1,h2⟩
   |scp=>
    obtain ⟨p,rfl⟩:=hy;obtain ⟨i',h1,h2⟩:=Mv k ys k' hys (by simpa [Hz] using h);exact ⟨i',by simpa [exitTo] using h1,h2⟩
   |blk id'=>
    cases hy;simp only [Hz] at h;split at h
    . rename_i e;cases h;exact ⟨ys,by simp [exitTo,e],hys⟩
    . rename_i e;obtain ⟨i',h1,h2⟩:=Mv k ys k' hys h;exact ⟨i',by simpa [exitTo,e] using h1,h2⟩
def Run.exit (he:Hz id k=some k') (h:Run cx K k' F L Y):Run cx K (.code (.exit id)::k) F L Y:=
 h.Oq fun items hi=>by
  obtain ⟨p,ys,rfl,hp,hys⟩:=hi.code;cases hp;obtain ⟨i',h1,h2⟩:=Mv k ys k' hys he;exact ⟨i',h2,fun b a cs w=>step_exit h1⟩
def Run.cond {x:X} {t e:C} {b:Bool} (Z:xv F x= .d (.bool b)) (ht:b=true->Run cx K (.code t::k) F L Y) (he:b=false->Run cx K (.code e::k) F L Y):
 Run cx K (.code (.cond x t e)::k) F L Y:=by
 intro items base g lam Pr a w0 w fb cs hi hf hb hk;obtain ⟨p,ys,rfl,⟨c,p1,p2,rfl,hc,h1,h2⟩,hys⟩:=hi.code;have hv:=Ah hc hf;rw [Z] at hv;have hev:a.eval c= .bool b:=by generalize a.eval c=vc at hv;cases hv with|d hh=>cases hh;rfl
 cases b with
 |true=>
  obtain ⟨v,w',fr,hs,rest⟩:=ht rfl _ base g lam Pr a w0 w fb cs (.Oo h1 hys) hf hb hk;exact ⟨v,w',fr,.head (step_cond hev) hs,rest⟩
 |false=>
  obtain ⟨v,w',fr,hs,rest⟩:=he rfl _ base g lam Pr a w0 w fb cs (.Oo h2 hys) hf hb hk;exact ⟨v,w',fr,.head (step_cond hev) hs,rest⟩
def AFV (cx:Cx) (K:AV->AH->Prop) (k:List CI) (live:List Nat):CW:=fun F L Y=>Run cx K k (Gw live F) (Fp live L) Y
def Run.reg {ops:List Q} (hm:cx.P.follows .mixedOrders=true) (h:B6 cx.P (AFV cx K k live) ops F L Y):Run cx K (.code (.reg ops live)::k) F L Y:=by
 intro items base g lam Pr a w0 w b cs hi hf hb hk;obtain ⟨p,ys,rfl,⟨id,arr,hp⟩,hys⟩:=hi.code
 have hw:p.wp cx.P (fun e a' w'=>e= .normal/\FL base Pr cx.N w0 g w (AFV cx K k live) a' w') a w:=by
  rcases hp with ⟨rfl,hc⟩|⟨rfl,order,hc⟩|⟨rfl,pt,t,hc,hl⟩
  . exact wp_region (uR cx.P arr cx.N cx.esc (AFV cx K k live) _ _ base g lam Pr F L Y a w0 w hc h hf (fun _ _ h=>⟨rfl,h⟩))
  . exact AGZ hm hc h hf
  . exact lY hm hc (ARD t ops F L Y hl h) hf
 obtain ⟨e,a',w',⟨he,g',lam',F',L',σ',hle,hkp,hf',hK⟩,harr⟩:=hw b ys cs;subst he;obtain ⟨v,w2,fr,hs,hfn,hl,av,g2,σ2,hvr,hrel,hle2,hkp2,hk2⟩:=hK ys base g' lam' Pr a' w0 w' b cs hys (hf'.kept live) hb hk;exact ⟨v,w2,fr,Steps.trans harr hs,hfn,hl,av,g2,σ2,hvr,hrel,Gh.le_trans hle hle2,hkp.trans hkp2,hk2⟩
def Run.IX {t:QT} (hm:cx.P.follows .mixedOrders=true) (h:XT cx.P (AFV cx K k live) false t F L Y):Run cx K (.code (.IX t live)::k) F L Y:=by
 intro items base g lam Pr a w0 w b cs hi hf hb hk;obtain ⟨p,ys,rfl,⟨id,arr,pt,rfl,hc⟩,hys⟩:=hi.code;have hw:(Code.region id arr true).wp cx.P (fun e a' w'=>e= .normal/\FL base Pr cx.N w0 g w (AFV cx K k live) a' w') a w:=lY hm hc h hf;obtain ⟨e,a',w',⟨he,g',lam',F',L',σ',hle,hkp,hf',hK⟩,harr⟩:=hw b ys cs;subst he;obtain ⟨v,w2,fr,hs,hfn,hl,av,g2,σ2,hvr,hrel,hle2,hkp2,hk2⟩:=hK ys base g' lam' Pr a' w0 w' b cs hys (hf'.kept live) hb hk;exact ⟨v,w2,fr,Steps.trans harr hs,hfn,hl,av,g2,σ2,hvr,hrel,Gh.le_trans hle hle2,hkp.trans hkp2,hk2⟩
def lE (hf:Bh base g lam Pr N F L Y a w0 w):∀(l:List ResultVar) (rs:List RV) (vs:List AV),lV P l=some rs->AI1 F L Y rs=some vs->vs.all AV.BS=true->
 ∃xs:List Value,(l.mapM fun| .tmp t=>pure (a.tmps.getD t Cl)| .cell ad t=>do loadVar t (<- asAddr (a.tmps.getD ad Cl)):Sem (List Value)).run P w= .ok xs w/\VRs g vs xs
 |[],rs,vs,hc,hv,_=>by
  simp only [lV,AM] at hc;subst hc;simp only [AI1,AM] at hv;subst hv;exact ⟨[],by simp,.nil⟩
 | .tmp n::l,rs,vs,hc,hv,hn=>by
  simp only [lV,AT,AB] at hc;obtain ⟨rs',hrs,he⟩:=hc;cases he;simp only [AI1,AT,AB,rvA] at hv;obtain ⟨v,hv1,vs',hvs,he⟩:=hv;cases he;cases hv1;simp only [BO,AO] at hn;obtain ⟨xs,Z,hr⟩:=lE hf l rs' vs' hrs hvs hn.2;exact ⟨a.tmps.getD n Cl::xs,by simp only [List.mapM_cons,Sem.run_bind,Sem.run_pure,Result.andThen_ok,Z],.cons ((hf.tm n).vr hn.1) hr⟩
 | .cell n t::l,rs,vs,hc,hv,hn=>by
  simp only [lV,AT,AB] at hc;obtain ⟨kk,hkk,rs',hrs,he⟩:=hc;cases he;simp only [AI1,AT,AB,rvA] at hv;obtain ⟨v,hv1,vs',hvs,he⟩:=hv;cases he;simp only [BO,AO] at hn;obtain ⟨xs,Z,hr⟩:=lE hf l rs' vs' hrs hvs hn.2;obtain ⟨x,hld,hvr⟩:=AD0 (P:=P) hkk hf (hf.tm n) hv1
  have hasaddr:(do loadVar t (<- asAddr (a.tmps.getD n Cl)):Sem Value).run P w= .ok x w:=by
   have hs:=hf.tm n;generalize a.tmps.getD n Cl=pn at hs hld;cases hp:pn<;>simp only [hp,Instr.loadAt,Instr.sureAddr] at hld<;>try (simp at hld;done)
   rename_i ad;cases ad with
   |none=>simp at hld
   |some ad=>simpa [asAddr,Instr.sureAddr] using hld
  exact ⟨x::xs,by simp only [Sem.run_bind] at hasaddr;simp only [List.mapM_cons,Sem.run_bind,hasaddr,Z,Result.andThen_ok,Sem.run_pure],.cons hvr hr⟩
def yW {fn:Func} {rs:List RV} (hc:lV P fn.results.toList=some rs) (hf:Bh base g lam Pr N F L Y a w0 w) (hv:dL F L Y rs=some v):
 ∃x,(results fn a.tmps).run P w= .ok x w/\VR g v x:=by
 simp only [dL,AB] at hv;obtain ⟨vs,hvs,hv⟩:=hv;split at hv
 case isFalse=>cases hv
 rename_i hn;obtain ⟨xs,Z,hr⟩:=lE (P:=P) hf _ rs vs hc hvs hn
 have hrun:(results fn a.tmps).run P w= .ok (if h:xs.toArray.size=1 then xs.toArray[0] else .tuple xs.toArray) w:=by
  unfold results;rw [Array.mapM_eq_mapM_toList];simp only [Sem.run_bind,Sem.run_map,Sem.run_pure];exact congrArg (fun r:Result (List Value)=>(r.andThen fun a w'=>Result.ok a.toArray w').andThen fun (a:Array Value) w'=>Result.ok (if h:a.size=1 then a[0] else Value.tuple a) w') Z
 have hlen:=hr.length;cases vs with
 |nil=>
  cases hv;cases hr;exact ⟨_,hrun,by simpa using VR.tup (g:=g) (cs:=[]) (vs:=[]) rfl (by simp)⟩
 |cons v1 vs=>
  cases vs with
  |nil=>
   cases hv;cases hr with|cons h1 h2=>cases h2;exact ⟨_,hrun,by simpa using h1⟩
  |cons v2 vs=>
   cases hv;refine ⟨_,hrun,?_⟩;have hne:¬xs.toArray.size=1:=by simp at hlen ⊢;omega
   rw [dif_neg hne];exact .tup hr.length hr.idx
def Run.fin (hg:Good cx) {v':AV} (hv:dL F L Y cx.rs=some v) (hw:∀g x,VR g v x->VR g v' x) (hσ:σ2.le Y) (hK:K v' σ2):Run cx K [] F L Y:=by
 intro items base g lam Pr a w0 w b cs hi hf hb hk;cases hi;obtain ⟨x,Z,hvr⟩:=yW hg.2 hf hv;refine ⟨x,w,_,.one step_end,hb,⟨rfl,hf.df,hk,cx.fn,by show cx.P.funcs[b.fn]?=_;rw [hb];exact hg.1,Z⟩,v',g,σ2,hw g x hvr,?_,Gh.le_refl g,KP.refl Pr w,hK⟩;exact (hf.rel.less hσ).grow (AS _) (fun _ _ _=>rfl) (Below.refl _ _) (fun b hp=>⟨(hf.rel.pr b (.inl hp)).1,.inl (.inl hp)⟩)
def Run.ret (hg:Good cx) {v':AV} (hv:dL F L Y cx.rs=some v) (hw:∀g x,VR g v x->VR g v' x) (hσ:σ2.le Y) (hK:K v' σ2):Run cx K (.code .ret::k) F L Y:=by
 intro items base g lam Pr a w0 w b cs hi hf hb hk;obtain ⟨p,ys,rfl,hp,hys⟩:=hi.code;cases hp;obtain ⟨x,Z,hvr⟩:=yW hg.2 hf hv;refine ⟨x,w,_,.one step_ret,hb,⟨rfl,hf.df,hk,cx.fn,by show cx.P.funcs[b.fn]?=_;rw [hb];exact hg.1,Z⟩,v',g,σ2,hw g x hvr,?_,Gh.le_refl g,KP.refl Pr w,hK⟩;exact (hf.rel.less hσ).grow (AS _) (fun _ _ _=>rfl) (Below.refl _ _) (fun b hp=>⟨(hf.rel.pr b (.inl hp)).1,.inl (.inl hp)⟩)
def XP (args:List AV):Fm:=fun s=>args.getD s .undef
def ALE {args:List AV} {c:C} {code:Code} (hg:Good cx) (hb:cx.fn.body=some code) (hN:cx.fn.ntmps=cx.N) (hl:args.length<=cx.N) (hc:RC cx c code)
 (h:Run cx K [.code c] (XP args) (fun _=>none) Y):AR cx.P cx.f args Y K:=by
 intro base g Pr w0 w vs hrel hvs cs
 let b:Frame:= { (default:Frame) with fn:=cx.f,kind:= .normal}
 have henter:Frame.enter cx.P cx.f vs.toArray .normal=b.at { tmps:=vs.toArray++FM (cx.fn.ntmps - vs.toArray.size) Cl,defers:=[]} [.code code]:=by
  simp [Frame.enter,Frame.at,hg.1,hb,b]
 have hvl:=hvs.length
 have hf:Bh base g (fun _=>none) Pr cx.N (XP args) (fun _=>none) Y { tmps:=vs.toArray++FM (cx.fn.ntmps - vs.toArray.size) Cl,defers:=[]} w0 w:=by
  refine ⟨fun s=>?_,by simp;omega,rfl,fun k cs hk=>(by cases hk),fun k k' b hk=>(by cases hk),fun k b hk=>(by cases hk),?_⟩
  . simp only [XP,A2];cases hs:args[s]? with
    |none=>exact VR.undef
    |some av=>
     obtain ⟨v,hv,hr⟩:=hvs.at s av hs;have hlt:=(AE.1 hv).1
     have:(vs.toArray++FM (cx.fn.ntmps - vs.toArray.size) Cl).getD s Cl=v:=by
      simp only [DI];rw [Array.getElem?_append_left (by simpa using hlt)];simp [hv]
     show SV g _ av ((vs.toArray++FM (cx.fn.ntmps - vs.toArray.size) Cl).getD s Cl);rw [this];exact SV.FT hr
  . exact hrel.grow (AS _) (fun _ _ _=>rfl) (Below.refl _ _) (fun b hp=>by
     rcases hp with hp|⟨k,hk⟩
     . exact ⟨(hrel.pr b hp).1,.inl hp⟩
     . cases hk)
 obtain ⟨v,w',fr,hs,hfn,hlv,av,g',σ',h1,h2,h3,h4,h5⟩:=h [.code code] base g _ Pr _ w0 w b cs (.Oo hc .nil) hf rfl rfl;rw [<- henter] at hs;exact ⟨.returned v,w',fr,⟨v,av,g',σ',rfl,h1,h2,h3,h4,h5⟩,hs,hfn,hlv⟩
variable {P:Program} {K:CW} {F:Fm} {L:Lm} {Y:AH} {r:List Q}
def E:Lm:=fun _=>none
def bA (k:Nat) (o:Option (List AV)) (L:Lm):Lm:=fun s=>if s=k then o else L s
def DR (d:Nat) (v:AV) (F:Fm) (s:Nat):put d v F s=if s=d then v else F s:=(rfl)
def ASA (d:Nat) (cs:List AV) (L:Lm) (s:Nat):At d cs L s=if s=d then some cs else L s:=(rfl)
def AaD (s:Nat):E s=none:=(rfl)
def AaL (s:Nat):U s= .undef:=(rfl)
def AQ6 (F:Fm):Gw [] F=U:=(rfl)
def AM8 (k:Nat) (ks:List Nat) (F:Fm):Gw (k::ks) F=put k (F k) (Gw ks F):=by
 funext s;simp only [Gw,put,Az];by_cases h:s=k
 . subst h;simp
 . simp [h]
def AM7 (L:Lm):Fp [] L=E:=(rfl)
def AH3 (k:Nat) (ks:List Nat) (L:Lm):Fp (k::ks) L=bA k (L k) (Fp ks L):=by
 funext s;simp only [Fp,bA,Az];by_cases h:s=k
 . subst h;simp
 . simp [h]
def AIO (k:Nat) (cs:List AV) (L:Lm):bA k (some cs) L=At k cs L:=(rfl)
def AVT (k:Nat):bA k none E=E:=by funext s;simp [bA,E]
def AIN (k j:Nat) (cs:List AV) (L:Lm):bA k none (At j cs L)=if j=k then bA k none L else At j cs (bA k none L):=by
 funext s;by_cases h:j=k
 . subst h;simp only [if_true,bA,At];by_cases h2:s=j<;>simp [h2]
 . simp only [h,if_false,bA,At];by_cases h2:s=k
   . have h3:s≠j:=by omega
     rw [if_pos h2,if_neg h3,if_pos h2]
   . rw [if_neg h2];by_cases h3:s=j
     . rw [if_pos h3,if_pos h3]
     . rw [if_neg h3,if_neg h3,if_neg h2]
def AOA (k:Nat) (cs ds:List AV) (L:Lm):At k cs (At k ds L)=At k cs L:=by
 funext s;simp only [At];split<;>rfl
def AcO (F:Fm) (n:Nat):xv F (.t n)=F n:=(rfl)
def AcN (F:Fm) (v:AV):xv F (.c v)=v:=(rfl)
def Bj (a:AV):XP [a]=put 0 a U:=by
 funext s;simp only [XP,put,U];cases s<;>simp
def BD (a b:AV):XP [a,b]=put 0 a (put 1 b U):=by
 funext s;simp only [XP,put,U]
 match s with|0=>rfl|1=>rfl|n+2=>simp
def DK (a b c:AV):XP [a,b,c]=put 0 a (put 1 b (put 2 c U)):=by
 funext s;simp only [XP,put,U]
 match s with|0=>rfl|1=>rfl|2=>rfl|n+3=>simp
def iH (a b c d:AV):XP [a,b,c,d]=put 0 a (put 1 b (put 2 c (put 3 d U))):=by
 funext s;simp only [XP,put,U]
 match s with|0=>rfl|1=>rfl|2=>rfl|3=>rfl|n+4=>simp
def AF3 (a b c d e:AV):XP [a,b,c,d,e]=put 0 a (put 1 b (put 2 c (put 3 d (put 4 e U)))):=by
 funext s;simp only [XP,put,U]
 match s with|0=>rfl|1=>rfl|2=>rfl|3=>rfl|4=>rfl|n+5=>simp
def AVS (k:Nat):Dp k U=U:=by funext s;simp [Dp,U,AV.CL]
def AN9 (k d:Nat) (v:AV) (F:Fm):Dp k (put d v F)=put d (if v.CL k then .undef else v) (Dp k F):=by
 funext s;simp only [Dp,put];by_cases h:s=d<;>simp [h]
def AYZ (k:Nat) (x:DV):(AV.d x).CL k=false:=(rfl)
def ANI (k:Nat):AV.Ad.CL k=false:=(rfl)
def ARH (k t e s:Nat) (r:List (List DV)):(AV.own t e s r).CL k=false:=(rfl)
def ANF (k:Nat) (r:List (List DV)):(AV.clip r).CL k=false:=(rfl)
def ARG (k:Nat) (r:List AV):(AV.agg r).CL k=false:=(rfl)
def AVB (k j o:Nat):(AV.lp j o).CL k=(j==k):=(rfl)
def AVA (k j o:Nat):(AV.gp j o).CL k=false:=(rfl)
def AU8 (k o:Nat) (r:List DV):(AV.ep r o).CL k=false:=(rfl)
def ANH (k:Nat):AV.EO.CL k=false:=(rfl)
def AVC (k i n s e:Nat):(AV.ms i n s e).CL k=false:=(rfl)
def AVD (k:Nat) (i o n s e:Nat):(AV.mv i o n s e).CL k=false:=(rfl)
def AU7 (k:Nat) (t e:Nat) (s:List UInt8):(AV.bp t e s).CL k=false:=(rfl)
def fP (k t:Nat) (es:MEs):(AV.om t es).CL k=false:=(rfl)
def ANG (k:Nat):AV.HG.CL k=false:=(rfl)
def AU9 (k:Nat) (f:FuncId) (x y:List AV):(AV.fn f x y).CL k=false:=(rfl)
def ARI (k:Nat) (x:List AV):(AV.tup x).CL k=false:=(rfl)
def AH5 (k:Nat):AV.undef.CL k=false:=(rfl)
def AT2 (x:DV):AV.cells (AV.d x)=[(AV.d x)]:=(rfl)
def AGL:AV.cells AV.Ad=[AV.Ad]:=(rfl)
def ALU (t e s:Nat) (r:List (List DV)):AV.cells (AV.own t e s r)=[(AV.own t e s r)]:=(rfl)
def AGI (r:List (List DV)):AV.cells (AV.clip r)=[(AV.clip r)]:=(rfl)
def ALT (r:List AV):AV.cells (AV.agg r)=r:=(rfl)
def APW (j o:Nat):AV.cells (AV.lp j o)=[(AV.lp j o)]:=(rfl)
def APV (j o:Nat):AV.cells (AV.gp j o)=[(AV.gp j o)]:=(rfl)
def APT (r:List DV) (o:Nat):AV.cells (AV.ep r o)=[(AV.ep r o)]:=(rfl)
def AGK:AV.cells AV.EO=[AV.EO]:=(rfl)
def APX (i n s e:Nat):AV.cells (AV.ms i n s e)=[(AV.ms i n s e)]:=(rfl)
def APY (i o n s e:Nat):AV.cells (AV.mv i o n s e)=[AV.mv i o n s e]:=(rfl)
def APR (t e:Nat) (s:List UInt8):AV.cells (AV.bp t e s)=[AV.bp t e s]:=(rfl)
def APZ (t:Nat) (es:MEs):AV.cells (AV.om t es)=[AV.om t es]:=(rfl)
def AGJ:AV.cells AV.HG=[AV.HG]:=(rfl)
def APU (f:FuncId) (x y:List AV):AV.cells (AV.fn f x y)=[(AV.fn f x y)]:=(rfl)
def ALV (x:List AV):AV.cells (AV.tup x)=[(AV.tup x)]:=(rfl)
def ACV:AV.cells AV.undef=[AV.undef]:=(rfl)
def AQ4 (x:DV):AV.B1 (AV.d x)=true:=(rfl)
def ADW:AV.B1 AV.Ad=true:=(rfl)
def AHW (t e s:Nat) (r:List (List DV)):AV.B1 (AV.own t e s r)=true:=(rfl)
def ADS (r:List (List DV)):AV.B1 (AV.clip r)=true:=(rfl)
def AHV (r:List AV):AV.B1 (AV.agg r)=false:=(rfl)
def AM1 (j o:Nat):AV.B1 (AV.lp j o)=false:=(rfl)
def AM0 (j o:Nat):AV.B1 (AV.gp j o)=true:=(rfl)
def AMY (r:List DV) (o:Nat):AV.B1 (AV.ep r o)=true:=(rfl)
def ADV:AV.B1 AV.EO=true:=(rfl)
def AM2 (i n s e:Nat):AV.B1 (AV.ms i n s e)=true:=(rfl)
def AM3 (i o n s e:Nat):AV.B1 (AV.mv i o n s e)=true:=(rfl)
def AMX (t e:Nat) (s:List UInt8):AV.B1 (AV.bp t e s)=true:=(rfl)
def AM4 (t:Nat) (es:MEs):AV.B1 (AV.om t es)=true:=(rfl)
def ADU:AV.B1 AV.HG=true:=(rfl)
def AMZ (f:FuncId) (x y:List AV):AV.B1 (AV.fn f x y)=true:=(rfl)
def AHX (x:List AV):AV.B1 (AV.tup x)=false:=(rfl)
def AAQ:AV.B1 AV.undef=false:=(rfl)
def MR (x:DV):AV.BS (AV.d x)=true:=(rfl)
def ANV:AV.BS AV.Ad=true:=(rfl)
def ARU (t e s:Nat) (r:List (List DV)):AV.BS (AV.own t e s r)=true:=(rfl)
def ANS (r:List (List DV)):AV.BS (AV.clip r)=true:=(rfl)
def Dm (r:List AV):AV.BS (AV.agg r)=true:=(rfl)
def AVK (j o:Nat):AV.BS (AV.lp j o)=false:=(rfl)
def VP (j o:Nat):AV.BS (AV.gp j o)=true:=(rfl)
def AVJ (r:List DV) (o:Nat):AV.BS (AV.ep r o)=true:=(rfl)
def ANU:AV.BS AV.EO=true:=(rfl)
def AKL (i n s e:Nat):AV.BS (AV.ms i n s e)=true:=(rfl)
def AVL (i o n s e:Nat):AV.BS (AV.mv i o n s e)=true:=(rfl)
def AVI (t e:Nat) (s:List UInt8):AV.BS (AV.bp t e s)=true:=(rfl)
def AVM (t:Nat) (es:MEs):AV.BS (AV.om t es)=true:=(rfl)
def ANT:AV.BS AV.HG=true:=(rfl)
def fY (f:FuncId) (x y:List AV):AV.BS (AV.fn f x y)=true:=(rfl)
def ARV (x:List AV):AV.BS (AV.tup x)=true:=(rfl)
def AIF:AV.BS AV.undef=true:=(rfl)
def AYD (x:DV):AV.dv (AV.d x)=some x:=(rfl)
def AUD:AV.dv AV.Ad=some (.sl []):=(rfl)
def AYE (t e s:Nat) (r:List (List DV)):AV.dv (AV.own t e s r)=some (.sl r):=(rfl)
def AUA (r:List (List DV)):AV.dv (AV.clip r)=some (.sl r):=(rfl)
def AYC (r:List AV):AV.dv (AV.agg r)=none:=(rfl)
def AaV (j o:Nat):AV.dv (AV.lp j o)=none:=(rfl)
def AaU (j o:Nat):AV.dv (AV.gp j o)=none:=(rfl)
def AaS (r:List DV) (o:Nat):AV.dv (AV.ep r o)=none:=(rfl)
def AUC:AV.dv AV.EO=some .EO:=(rfl)
def AaX (i o n s e:Nat):AV.dv (AV.mv i o n s e)=none:=(rfl)
def AaR (t e:Nat) (s:List UInt8):AV.dv (AV.bp t e s)=none:=(rfl)
def AaY (t:Nat) (es:MEs):AV.dv (AV.om t es)=none:=(rfl)
def AUB:AV.dv AV.HG=none:=(rfl)
def AaW (i n s e:Nat):AV.dv (AV.ms i n s e)=none:=(rfl)
def AaT (f:FuncId) (x y:List AV):AV.dv (AV.fn f x y)=none:=(rfl)
def AYF (x:List AV):AV.dv (AV.tup x)=none:=(rfl)
def AP9:AV.dv AV.undef=none:=(rfl)
def AOG:AV.rows AV.Ad=some []:=(rfl)
def ASK (t e s:Nat) (r:List (List DV)):AV.rows (AV.own t e s r)=some r:=(rfl)
def AOF (r:List (List DV)):AV.rows (AV.clip r)=some r:=(rfl)
def AZG (r:List (List DV)):AV.rows (AV.d (.sl r))=some r:=(rfl)
def ANC:Tx AV.Ad=some (.d (.int .i64 0)):=(rfl)
def ARC (t e s:Nat) (r:List (List DV)):Tx (AV.own t e s r)=some (.d (.int .i64 r.length)):=(rfl)
def ANB (r:List (List DV)):Tx (AV.clip r)=some (.d (.int .i64 r.length)):=(rfl)
def AU4 (i n s e:Nat):Tx (AV.ms i n s e)=some (.d (.int .i64 n)):=(rfl)
def AU5 (i o n s e:Nat):Tx (AV.mv i o n s e)=some (.d (.int .i64 n)):=(rfl)
def AYY (r:List (List DV)):Tx (AV.d (.sl r))=some (.d (.int .i64 r.length)):=(rfl)
def AZ7:B6 P K [] F L Y=K F L Y:=(rfl)
def AaC (b:Bool) (q:Q) (t:QT):XT P K b (.one q t) F L Y=B6 P (XT P K false t) [q] F L Y:=by cases b<;>rfl
def AaB (b:Bool) (q:Q) (t s:QT):XT P K b (.alt q t s) F L Y=(B6 P (XT P K false t) [q] F L Y/\XT P K true s F L Y):=by cases b<;>rfl
def AW3:XT P K false .done F L Y=K F L Y:=(rfl)
def AW4:XT P K true .done F L Y=True:=(rfl)
def ATL (v:AV) (d:Nat):XPv (some v) (some d) K F L Y=K (put d v F) L Y:=(rfl)
def Ab0 (d:Nat) (x:X):B6 P K (⟨some d,.mv x,none⟩::r) F L Y=B6 P K r (put d (xv F x) F) L Y:=(rfl)
def AWY (d:Option Nat) (x y z:X):B6 P K (⟨d,.pick x y z,none⟩::r) F L Y=XPv (AED (xv F x) (xv F y) (xv F z)) d (B6 P K r) F L Y:=(rfl)
def AZ0 (d:Option Nat) (x:X) (o:Nat):B6 P K (⟨d,.fld x o,none⟩::r) F L Y=XPv (AG5 (xv F x) o) d (B6 P K r) F L Y:=(rfl)
def AbY (d:Option Nat) (x:X) (n:Option Nat):B6 P K (⟨d,.ld x n,none⟩::r) F L Y=XPv (ldA L Y (xv F x) n) d (B6 P K r) F L Y:=(rfl)
def AbX (d:Option Nat) (x y:X) (n:Nat):B6 P K (⟨d,.ix x y n,none⟩::r) F L Y=XPv (ixA (xv F x) (xv F y) n) d (B6 P K r) F L Y:=(rfl)
def AW0 (d:Option Nat) (x y:X):B6 P K (⟨d,.AST x y,none⟩::r) F L Y=XPv (tT (xv F x) (xv F y)) d (B6 P K r) F L Y:=(rfl)
def AZ2 (d:Option Nat) (x:X):B6 P K (⟨d,.len x,none⟩::r) F L Y=XPv (Tx (xv F x)) d (B6 P K r) F L Y:=(rfl)
def AW1 (d:Option Nat) (x:X):B6 P K (⟨d,.AOL x,none⟩::r) F L Y=XPv (y5 (xv F x)) d (B6 P K r) F L Y:=(rfl)
def AZV (d:Option Nat) (op:BinOp) (x y:X):B6 P K (⟨d,.bin op x y,none⟩::r) F L Y=XPv (ALK op (xv F x) (xv F y)) d (B6 P K r) F L Y:=(rfl)
def AWR (d:Option Nat) (op:BinOp) (x y:X):B6 P K (⟨d,.APN op x y,none⟩::r) F L Y=XPv (xJ op (xv F x) (xv F y)) d (B6 P K r) F L Y:=(rfl)
def Ab2 (d:Option Nat) (op:UnOp) (x:X):B6 P K (⟨d,.un op x,none⟩::r) F L Y=XPv (unA op (xv F x)) d (B6 P K r) F L Y:=(rfl)
def AWW (d:Option Nat) (k:IntKind) (x:X):B6 P K (⟨d,.conv k x,none⟩::r) F L Y=XPv (xS k (xv F x)) d (B6 P K r) F L Y:=(rfl)
def AZW (d:Option Nat) (z:List AV) (ps:List (Nat×Nat×X)):B6 P K (⟨d,.bld z ps,none⟩::r) F L Y=XPv ((Jz z F ps).map .agg) d (B6 P K r) F L Y:=(rfl)
def AZY (d:Option Nat) (s n:Nat) (z:List AV) (ps:List (Nat×Nat×X)):B6 P K (⟨d,.bsl s n z ps,none⟩::r) F L Y=XPv (((Jz z F ps).bind dvs).map fun l=>.d (.sl (chunk s n l))) d (B6 P K r) F L Y:=(rfl)
def AZ3 (d:Option Nat) (f:FuncId) (x y:List X):B6 P K (⟨d,.mkf f x y,none⟩::r) F L Y=XPv (if (xvs F x++xvs F y).all AV.BS then some (.fn f (xvs F x) (xvs F y)) else none) d (B6 P K r) F L Y:=(rfl)
def AZZ (d:Option Nat) (x:X) (i:Nat):B6 P K (⟨d,.ext x i,none⟩::r) F L Y=XPv (AL8 (xv F x) i) d (B6 P K r) F L Y:=(rfl)
def AZ6 (d:Option Nat) (x:X):B6 P K (⟨d,.nck x,none⟩::r) F L Y=XPv (ARN (xv F x)) d (B6 P K r) F L Y:=(rfl)
def AbZ (d:Option Nat) (b:Bool) (x y:X):B6 P K (⟨d,.mm b x y,none⟩::r) F L Y=XPv (mmA b (xv F x) (xv F y)) d (B6 P K r) F L Y:=(rfl)
def AZX (d:Nat) (x:X):B6 P K (⟨some d,.box x false,none⟩::r) F L Y=(Ax (xv F x).cells=true/\B6 P K r (put d (.lp d 0) (Dp d F)) (At d (xv F x).cells L) Y):=(rfl)
def AbQ (d:Nat) (z:List AV):B6 P K (⟨some d,.al z false,none⟩::r) F L Y=(Ax z=true/\B6 P K r (put d (.lp d 0) (Dp d F)) (At d z L) Y):=(rfl)
def AWS (d:Nat) (x:X):B6 P K (⟨some d,.box x true,none⟩::r) F L Y=(Ax (xv F x).cells=true/\∀i,Y.blk i=none->B6 P K r (put d (.gp i 0) F) L (Y.AL i (xv F x).cells)):=(rfl)
def AZT (d:Nat) (z:List AV):B6 P K (⟨some d,.al z true,none⟩::r) F L Y=(Ax z=true/\∀i,Y.blk i=none->B6 P K r (put d (.gp i 0) F) L (Y.AL i z)):=(rfl)
def AXW (K:CW) (F:Fm):Option (Lm×AH)->Prop
 |some (L',σ')=>K F L' σ'
 |none=>False
def ATM (F:Fm) (L':Lm) (σ':AH):AXW K F (some (L',σ'))=K F L' σ':=(rfl)
def Ab1 (x v:X) (n:Nat):B6 P K (⟨none,.st x v n,none⟩::r) F L Y=(Ax (xv F v).cells=true/\(xv F v).cells.length=n/\AXW (B6 P K r) F (stA L Y (xv F v).cells (xv F x))):=by
 show XSt _ _ _ _ _ _ _ _=_;unfold XSt AXW;simp only [true_and];cases stA L Y (xv F v).cells (xv F x)<;>rfl
def AbT (d:Option Nat) (o:O) (s:Nat) (want:Bool):B6 P K (⟨d,o,some (s,want)⟩::r) F L Y=XG (gdV want (F s)) (B6 P K (⟨d,o,none⟩::r) F L Y) (B6 P K r (BL d (.tup []) F) L Y):=rfl
def AbW (d:Option Nat) (o:O) (s:Nat) (want:Bool) (h:gdV want (F s)=some true):B6 P K (⟨d,o,some (s,want)⟩::r) F L Y=B6 P K (⟨d,o,none⟩::r) F L Y:=by rw [AbT,h];rfl
def AbU (d:Option Nat) (o:O) (s:Nat) (want:Bool) (h:gdV want (F s)=some false):B6 P K (⟨d,o,some (s,want)⟩::r) F L Y=B6 P K r (BL d (.tup []) F) L Y:=by rw [AbT,h];rfl
def Aa7 (want b:Bool):gdV want (.d (.bool b))=some (b==want):=(rfl)
def Aa8 (want:Bool):gdV want (.tup [])=some false:=(rfl)
def AOB (d:Nat) (v:AV) (F:Fm):BL (some d) v F=put d v F:=(rfl)
def AWV (d:Option Nat) (f:FuncId) (args:List X):B6 P K (⟨d,.call f args,none⟩::r) F L Y=AI P f (xvs F args) d (B6 P K r) F L Y:=(rfl)
def ATK (d:Option Nat) (f:FuncId) (args:List X):B6 P K (⟨d,.mF f args,none⟩::r) F L Y=pM P f (xvs F args) d (B6 P K r) F L Y:=(rfl)
def AZU (d:Option Nat) (e s b:Nat) (x y:X):B6 P K (⟨d,.app e s b x y,none⟩::r) F L Y=Dh e s b (xv F x) (xv F y) d (B6 P K r) F L Y:=(rfl)
def AXR (P:Program) (x:AV) (args:List AV) (dst:Option Nat) (K:CW) (F:Fm) (L:Lm) (Y:AH):Prop:=
 ∃f first caps,x= .fn f first caps/\CT P f=true/\AI P f (first++args++caps) dst K F L Y
def ATJ (d:Option Nat) (x:X) (args:List X):B6 P K (⟨d,.aR x args,none⟩::r) F L Y=AXR P (xv F x) (xvs F args) d (B6 P K r) F L Y:=(rfl)
def AZ5 (d:Option Nat) (e s b:Nat) (z:List AV) (x y:X):B6 P K (⟨d,.msl e s b z x y,none⟩::r) F L Y=O1 e s b z (xv F x) (xv F y) d (B6 P K r) F L Y:=(rfl)
def AWQ (d:Option Nat) (e s b:Nat) (x y:X):B6 P K (⟨d,.uV e s b x y,none⟩::r) F L Y=PO e s b (xv F x) (xv F y) d (B6 P K r) F L Y:=(rfl)
def AaA (d:Option Nat) (x y:X):B6 P K (⟨d,.trn x y,none⟩::r) F L Y=AXX (xv F x) (xv F y) d (B6 P K r) F L Y:=(rfl)
def AWU (d:Option Nat) (e s n:Nat) (z:List AV) (ps:List (Nat×Nat×X)):B6 P K (⟨d,.mW e s n z ps,none⟩::r) F L Y=XK e s n (Jz z F ps) d (B6 P K r) F L Y:=(rfl)
def AZ1 (d:Option Nat) (x:X) (n:Option Nat):B6 P K (⟨d,.ldl x n,none⟩::r) F L Y=XPv (AAX L (xv F x) n) d (B6 P K r) F L Y:=(rfl)
def AbS (d:Option Nat) (x:X) (o:Nat) (n:Option Nat):B6 P K (⟨d,.fd x o n,none⟩::r) F L Y=XPv (fdA (xv F x) o n) d (B6 P K r) F L Y:=(rfl)
def AZ9 (d:Option Nat) (x:X) (a b:Option X):B6 P K (⟨d,.ssl x a b,none⟩::r) F L Y=XPv (Yl (xv F x) (a.map (xv F)) (b.map (xv F))) d (B6 P K r) F L Y:=(rfl)
def AZ8 (d:Option Nat) (x:X) (a b c:Option X) (n:Nat):B6 P K (⟨d,.sls x a b c n,none⟩::r) F L Y=XPv (AOM (xv F x) (a.map (xv F)) (b.map (xv F)) (c.map (xv F)) n) d (B6 P K r) F L Y:=(rfl)
def AWZ (d:Option Nat) (ne:Bool) (x:X):B6 P K (⟨d,.AIL ne x,none⟩::r) F L Y=XPv (yS ne (xv F x)) d (B6 P K r) F L Y:=(rfl)
def AW2 (d:Option Nat) (ne:Bool) (n:Nat) (x y:X):B6 P K (⟨d,.AI8 ne n x y,none⟩::r) F L Y=XPv (y6 ne n (xv F x) (xv F y)) d (B6 P K r) F L Y:=(rfl)
def AZ4 (d:Option Nat) (b:Bool) (x y z:X):B6 P K (⟨d,.mm3 b x y z,none⟩::r) F L Y=XPv ((mmA b (xv F x) (xv F y)).bind fun v=>mmA b v (xv F z)) d (B6 P K r) F L Y:=(rfl)
def AWT (d:Option Nat) (x:X):B6 P K (⟨d,.APP x,none⟩::r) F L Y=XPv ((dvs (xv F x).cells).map fun ds=>.d (.ptr ds)) d (B6 P K r) F L Y:=(rfl)
def AbR (d:Option Nat) (k:EK) (xs:List X):B6 P K (⟨d,.ex k xs,none⟩::r) F L Y=XEx k (xvs F xs) d (B6 P K r) F L Y:=(rfl)
def AWP (d:Option Nat) (args:List AV):XEx .usd args d K F L Y=XPv (exP .usd args) d K F L Y:=(rfl)
def AWO (d:Nat) (t:Nat) (z:List AV):XEx (.alt t z) [] (some d) K F L Y=(Ax z=true/\∀i,(Y.blk i=none/\Y.bt i=none)->K (put d (.gp i 0) F) L ((Y.AL i z).Bl i (z.length,t))):=by
 simp only [XEx,EK.pure,A1,if_false,Cq,true_and,ExR,BL]
def AWX (s:Bool) (d:Option Nat) (x y z:X):B6 P K (⟨d,.fT s x y z,none⟩::r) F L Y=aK s (xv F x) (xv F y) (xv F z) d (B6 P K r) F L Y:=(rfl)
def aK.mk {t:Nat} {n x:Int} (ht:Y.tok t=true) (hno:es.lookup n=none) (h:∀t',Y.tok t'=false->K (reF t (.om t' (mI (es++[(n,x)]))) F) L ((Y.CP t).Bq t')):
 aK false (.om t (mI es)) (.d (.int .i64 n)) (.d (.int .i64 x)) none K F L Y:=⟨rfl,t,ht,es,n,x,rfl,rfl,rfl,hno,h⟩
def aK.pk {t:Nat} {ks:List (Int×List UInt8)} {n:Int} (ht:Y.tok t=true) (hno:(n,x) ∉ ks) (h:∀t',Y.tok t'=false->K (reF t (.om t' (mK (ks++[(n,x)]))) F) L ((Y.CP t).Bq t')):
 aK true (.om t (mK ks)) (.agg [.d (.int .i64 n),.d (.str x)]) (.d (.bool true)) none K F L Y:=⟨rfl,t,ht,ks,n,x,rfl,rfl,rfl,hno,h⟩
def AV0 (t:Nat) (x v:AV) (d:Nat):reF t x (put d v F)=put d (reA t x v) (reF t x F):=by
 funext s;simp only [reF,put];split<;>rfl
def AbI (t:Nat) (x:AV):reF t x U=U:=(rfl)
def AbH (t:Nat) (x:AV) (y:DV):reA t x (.d y)= .d y:=(rfl)
def ASH (t:Nat) (x:AV) (es:MEs):reA t x (.om t es)=x:=by simp [reA]
def AZC (t:Nat) (x:AV) (i o:Nat):reA t x (.gp i o)= .gp i o:=(rfl)
def AZD (t:Nat) (x:AV) (i o:Nat):reA t x (.lp i o)= .lp i o:=(rfl)
def ASG (t:Nat) (x:AV):reA t x .Ad= .Ad:=(rfl)
def AZE (t:Nat) (x:AV) (i n s e:Nat):reA t x (.ms i n s e)= .ms i n s e:=(rfl)
def AVY (t:Nat) (x:AV) (i e s:Nat) (r:List (List DV)):reA t x (.own i e s r)= .own i e s r:=(rfl)
def AOC (t:Nat) (x:AV):reA t x .undef= .undef:=(rfl)
def AVZ (t:Nat) (x:AV) (l:List AV):reA t x (.tup l)= .tup l:=(rfl)
def AVX (t:Nat) (x:AV) (l:List AV):reA t x (.agg l)= .agg l:=(rfl)
def XEx.mmk {d:Option Nat} (h:∀t,Y.tok t=false->K (BL d (.om t []) F) L (Y.Bq t)):XEx .mmk [] d K F L Y:=⟨rfl,h⟩
def XEx.AIA {d:Option Nat} {t:Nat} (ht:Y.tok t=true) (hl:es.length<=1000000000) (h:K (BL d (.d (.int .i64 es.length)) F) L Y):XEx .AIA [.om t (mI es)] d K F L Y:=
 ⟨rfl,⟨ht,by simpa [mI] using hl⟩,by simpa [mI] using h⟩
def XEx.AbE {d:Option Nat} {t:Nat} {n x:Int} (ht:Y.tok t=true) (Z:0<=x/\x<=1000000000) (hl:es.lookup n=some x) (h:K (BL d (.tup [.d (.int .i64 x),.d (.bool true)]) F) L Y):
 XEx .ANK [.om t (mI es),.d (.int .i64 n)] d K F L Y:=⟨rfl,ht,es,rfl,x,.inl ⟨Z,hl,h⟩⟩
def XEx.AbD {d:Option Nat} {t:Nat} {n:Int} (ht:Y.tok t=true) (hl:es.lookup n=none) (h:K (BL d (.tup [.d (.int .i64 0),.d (.bool false)]) F) L Y):
 XEx .ANK [.om t (mI es),.d (.int .i64 n)] d K F L Y:=⟨rfl,ht,es,rfl,0,.inr ⟨hl,h⟩⟩
def XEx.AA3 {d:Option Nat} {t:Nat} {ks:List (Int×List UInt8)} {n:Int} (ht:Y.tok t=true) (h:K (BL d (.d (.bool (ks.contains (n,s)))) F) L Y):
 XEx .AA3 [.om t (mK ks),.agg [.d (.int .i64 n),.d (.str s)]] d K F L Y:=⟨by simp [AV.BS],ht,ks,rfl,h⟩
def XEx.wZ {d:Nat} {ne b:Bool} (hn:v.BS=true) (hv:AA4 v=some b) (h:K (put d (.d (.bool (b != ne))) F) L Y):XEx (.wZ ne) [v] (some d) K F L Y:=by
 refine ⟨by simp [hn],?_⟩;show (match AA4 v with|some b=>_|none=>_);rw [hv];exact h
def XEx.ASV {d:Nat} {ne:Bool} (hn:v.BS=true) (hr:v.rows=some []) (h:∀b,K (put d (.d (.bool b)) F) L Y):XEx (.wZ ne) [v] (some d) K F L Y:=by
 refine ⟨by simp [hn],?_⟩;show (match AA4 v with|some b=>_|none=>_);cases AA4 v with
 |some b=>exact h _
 |none=>exact ⟨hr,h⟩
def XEx.apps {d:Option Nat} {e:Nat} {s:AV} {rows:List (List DV)} (hn:s.BS=true) (ha:O2 Y e 1 s=some (rows,σ1)) (hl:rows.length+x.length<=140737488355328)
 (h:∀t,Y.tok t=false->K (BL d (.own t e 1 (rows++Ba x)) F) L (σ1.Bq t)):XEx (.apps e) [s,.d (.str x)] d K F L Y:=
 ⟨by rw [BO,hn];rfl,rows,σ1,ha,hl,h⟩
def XEx.AJG {d:Option Nat} {e t:Nat} {n:Int} (hl:n=s.length) (h0:s≠[]) (ht:Y.tok t=true) (h:K (BL d (.d (.str s)) F) L (Y.CP t)):XEx (.AJG e) [.bp t e s,.d (.int .i64 n)] d K F L Y:=
 ⟨rfl,⟨rfl,hl⟩,h0,ht,h⟩
def PO.mk {d:Option Nat} {e size:Nat} {s x:AV} (h1:OI Y e size s=some (n,cs,σ1)) (h2:x.rows=some srows)
 (h3:∀r∈srows,r.length=size) (h4:srows≠[]) (h5:n+srows.length<=1000000000) (hb:bytes<=10000)
 (h:∀j,Y.blk j=none->K (BL d (.ms j (n+srows.length) size e) F) L (σ1.AL j (cs++E9 srows))):PO e size bytes s x d K F L Y:=
 ⟨n,cs,σ1,srows,h1,h2,h3,fun e=>absurd e h4,by simp only [maxLen];omega,by
   calc (n+srows.length) * bytes<=1000000000 * 10000:=Nat.mul_le_mul h5 hb
    _<=140737488355328:=by decide,fun _=>h⟩
def XK.mk {d:Option Nat} {e s:Nat} (h:∀j,Y.blk j=none->K (BL d (.ms j n s e) F) L (Y.AL j cs)):XK e s n (some cs) d K F L Y:=⟨cs,rfl,.inl h⟩
def XK.own {d:Option Nat} {e s:Nat} {ds:List DV} (hd:dvs cs=some ds) (_:True) (h:∀t,Y.tok t=false->K (BL d (.own t e s (chunk s n ds)) F) L (Y.Bq t)):XK e s n (some cs) d K F L Y:=⟨cs,rfl,.inr ⟨ds,hd,h⟩⟩
def AT0 (n:Nat):mV n none none=some (0,n):=by simp [mV]
def O1.mk {d:Option Nat} {e s b:Nat} {z:List AV} (n:Nat) (hb:b * n<=281474976710656) (hn:n<=9223372036854775807) (h:∀i,Y.blk i=none->K (BL d (.ms i n s e) F) L (Y.AL i (AG n z).flatten)):
 O1 e s b z (.d (.int .i64 n)) (.d (.int .i64 n)) d K F L Y:=
 ⟨.i64,.i64,n,rfl,rfl,by omega,by rw [<- Int.natCast_mul];omega,by omega,fun i hi=>by simpa using h i hi⟩
def AI.mk {d:Option Nat} {f:FuncId} {args:List AV} {Q:AV->AH->Prop} (hn:args.all AV.BS=true) (h:AR P f args Y Q) (hk:∀v σ',Q v σ'->K (BL d v F) L σ'):
 AI P f args d K F L Y:=⟨hn,Q,h,hk⟩
def pM.mk {d:Option Nat} {f:FuncId} {args:List AV} (hn:args.all AV.BS=true) (h:AR P f args Y (fun v' σ'=>v'=v/\σ'=Y)) (hk:K (BL d v F) L Y) (hv:v.BS=true:=by rfl):
 pM P f args d K F L Y:=⟨hn,v,⟨hv,h⟩,hk⟩
def Dh.mk {d:Option Nat} {e size:Nat} {s x:AV} {rows:List (List DV)} (h1:O2 Y e size s=some (rows,σ1)) (h2:x.rows=some srows)
 (h3:∀r∈srows,r.length=size) (h4:rows.length+srows.length<=maxLen) (h5:(rows.length+srows.length) * bytes<=140737488355328)
 (h:∀t,Y.tok t=false->K (BL d (.own t e size (rows++srows)) F) L (σ1.Bq t)):Dh e size bytes s x d K F L Y:= .inl ⟨rows,σ1,srows,h1,h2,h3,h4,h5,h⟩
def Dh.clip {d:Option Nat} {e size:Nat} {x:AV} {rows:List (List DV)} (h2:x.rows=some srows)
 (h3:∀r∈rows,r.length=size) (h3':∀r∈srows,r.length=size) (h4:rows.length+srows.length<=1000000000) (hb:bytes<=10000)
 (h:K (BL d (.d (.sl (rows++srows))) F) L Y):Dh e size bytes (.clip rows) x d K F L Y:=
 .inr ⟨rows,srows,rfl,h2,h3,h3',by simp only [maxLen];omega,by
  calc (rows.length+srows.length) * bytes<=1000000000 * 10000:=Nat.mul_le_mul h4 hb
   _<=140737488355328:=by decide,h⟩
def AR.args {f:FuncId} {args args':List AV} {Q:AV->AH->Prop} (h:AR P f args' Y Q) (hw:∀g vs,VRs g args vs->VRs g args' vs):AR P f args Y Q:=
 fun base g Pr w0 w vs hr hv=>h base g Pr w0 w vs hr (hw g vs hv)
def dZ:∀(ops:List Q) {K K':CW} {F:Fm} {L:Lm} {Y:AH},(∀F L Y,K F L Y->K' F L Y)->B6 P K ops F L Y->B6 P K' ops F L Y
 |[],_,_,_,_,_,hk,Z=>hk _ _ _ Z
 |q::rest,K,K',F,L,Y,hk,Z=>by
  have Z:XG (gd F q.grd) (XO P q.dst (B6 P K rest) F L Y q.o) (B6 P K rest (BL q.dst (.tup []) F) L Y):=Z;show XG (gd F q.grd) (XO P q.dst (B6 P K' rest) F L Y q.o) (B6 P K' rest (BL q.dst (.tup []) F) L Y);cases hc:gd F q.grd with
  |none=>rw [hc] at Z;exact Z.elim
  |some b=>
   rw [hc] at Z;cases b
   . exact dZ rest hk Z
   . exact AFX (fun F L Y h=>dZ rest hk h) Z
def Cut (live:List Nat) (F0:Fm) (L0:Lm) (σ0:AH):CW:=fun F L Y=>Gw live F=F0/\Fp live L=L0/\Y=σ0
def Run.AZF {cx:Cx} {KK:AV->AH->Prop} {k:List CI} {ops:List Q} (hm:cx.P.follows .mixedOrders=true) (F0:Fm) (L0:Lm) (σ0:AH)
 (h1:B6 cx.P (Cut live F0 L0 σ0) ops F L Y) (h2:Run cx KK k F0 L0 σ0):Run cx KK (.code (.reg ops live)::k) F L Y:=
 Run.reg hm (dZ ops (fun F L Y h=>by obtain ⟨e1,e2,e3⟩:=h;show Run cx KK k (Gw live F) (Fp live L) Y;rw [e1,e2,e3];exact h2) h1)
def AI7 {P:Program} {m m1 m':Machine} (h:step P m= .next m1) (hs:Steps P m m') (hne:m≠m'):Steps P m1 m':=by
 obtain ⟨n,hn⟩:=hs;cases n with
 |zero=>simp only [runN] at hn;cases hn;exact absurd rfl hne
 |succ n=>simp only [runN,h] at hn;exact ⟨n,hn⟩
def Run.BB {cx:Cx} {KK:AV->AH->Prop} {k:List CI} {c:C} (h:Run cx KK (.again c::k) F L Y):Run cx KK (.code (.loop c)::k) F L Y:=by
 intro items base g lam Pr a w0 w b cs hi hf hb hk;obtain ⟨p,ys,rfl,⟨p1,rfl,h1⟩,hys⟩:=hi.code;obtain ⟨v,w',fr,hs,hfn,hl,rest⟩:=h (.inLoop p1::ys) base g lam Pr a w0 w b cs (.cons ⟨p1,rfl,h1⟩ hys) hf hb hk;refine ⟨v,w',fr,.head step_loop (AI7 step_inLoop hs fun e=>?_),hfn,hl,rest⟩;have h2:(lone (b.at a (.inLoop p1::ys)) cs w).gs=(lone fr cs w').gs:=by rw [e]
 simp only [lone,Array.mk.injEq,ZW,Goroutine.mk.injEq] at h2;have h3:(b.at a (.inLoop p1::ys)).mode=fr.mode:=by rw [h2.1.1]
 rw [hl.1] at h3;cases h3
def dY (v:AV) (A B:Prop):Prop:=
 match v with
 | .d (.bool b)=>(b=true->A)/\(b=false->B)
 |_=>False
def AWL (b:Bool) (A B:Prop):dY (.d (.bool b)) A B=((b=true->A)/\(b=false->B)):=(rfl)
def AWN (A B:Prop):dY (.d (.bool true)) A B=A:=by simp [dY]
def AWM (A B:Prop):dY (.d (.bool false)) A B=B:=by simp [dY]
def Run.AW7 {cx:Cx} {KK:AV->AH->Prop} {k:List CI} {x:X} {t e:C} (h:dY (xv F x) (Run cx KK (.code t::k) F L Y) (Run cx KK (.code e::k) F L Y)):Run cx KK (.code (.cond x t e)::k) F L Y:=by
 cases Z:xv F x<;>rw [Z] at h<;>try exact h.elim
 rename_i dv;cases dv<;>try exact h.elim
 exact Run.cond Z h.1 h.2
mutual
def AV.plain:AV->AV
 | .Ad=>.d (.sl [])
 | .EO=>.d .EO
 | .own _ _ _ rows=>.d (.sl rows)
 | .clip rows=>.d (.sl rows)
 | .agg cs=>.agg (AV.CV cs)
 | .tup vs=>.tup (AV.CV vs)
 |v=>v
def AV.CV:List AV->List AV
 |[]=>[]
 |v::l=>AV.plain v::AV.CV l
end
def HU (x:DV):AV.plain (AV.d x)=(AV.d x):=by simp only [AV.plain]
def HV:AV.plain AV.Ad= .d (.sl []):=by simp only [AV.plain]
def AN5 (t e s:Nat) (r:List (List DV)):AV.plain (AV.own t e s r)= .d (.sl r):=by simp only [AV.plain]
def AIJ (r:List (List DV)):AV.plain (AV.clip r)= .d (.sl r):=by simp only [AV.plain]
def MU (r:List AV):AV.plain (AV.agg r)= .agg (AV.CV r):=by simp only [AV.plain]
def AR3 (j o:Nat):AV.plain (AV.lp j o)=(AV.lp j o):=by simp only [AV.plain]
def AR2 (j o:Nat):AV.plain (AV.gp j o)=(AV.gp j o):=by simp only [AV.plain]
def AR1 (r:List DV) (o:Nat):AV.plain (AV.ep r o)=(AV.ep r o):=by simp only [AV.plain]
def VT:AV.plain AV.EO= .d .EO:=by simp only [AV.plain]
def AR4 (i n s e:Nat):AV.plain (AV.ms i n s e)=(AV.ms i n s e):=by simp only [AV.plain]
def AR5 (i o n s e:Nat):AV.plain (AV.mv i o n s e)=(AV.mv i o n s e):=by simp only [AV.plain]
def AR0 (t e:Nat) (s:List UInt8):AV.plain (AV.bp t e s)=(AV.bp t e s):=by simp only [AV.plain]
def AR6 (t:Nat) (es:MEs):AV.plain (AV.om t es)=AV.om t es:=by simp only [AV.plain]
def AIK:AV.plain AV.HG=AV.HG:=by simp only [AV.plain]
def plain_fn (f:FuncId) (x y:List AV):AV.plain (AV.fn f x y)=(AV.fn f x y):=by simp only [AV.plain]
def AN6 (x:List AV):AV.plain (AV.tup x)= .tup (AV.CV x):=by simp only [AV.plain]
def AEF:AV.plain AV.undef=AV.undef:=by simp only [AV.plain]
def MV:∀(l:List AV) (i:Nat),(AV.CV l)[i]?=(l[i]?).map AV.plain
 |[],i=>by simp [AV.CV]
 |v::l,0=>by simp [AV.CV]
 |v::l,i+1=>by simp [AV.CV,MV l i]
def VU:∀l:List AV,(AV.CV l).length=l.length
 |[]=>rfl
 |v::l=>by simp [AV.CV,VU l]
def dG (h:v.B1=true):v.plain.B1=true:=by cases v<;>first|rfl|(cases h;done)
def VR.plain {g:Gh} {x:AV} {v:Value} (h:VR g x v):VR g x.plain v:=by
 induction h with
 |d h=>simpa [AV.plain] using VR.d h
 |Ad=>exact .d (.nil (FO _) (fun _=>rfl))
 |own h _ _=>exact .d h
 |clip h=>exact .d h
 |@agg cs vs hl hc _ ih=>
  refine .agg (by rw [VU];exact hl) (fun c hcm=>?_) (fun i c v hci hvi=>?_)
  . obtain ⟨i,hi,rfl⟩:=Bv hcm;have:=MV cs i;rw [Ay hi] at this;cases hcs:cs[i]? with
    |none=>rw [hcs] at this;cases this
    |some c'=>rw [hcs] at this;simp only [Ac,AM] at this;rw [this];exact dG (hc c' (AD hcs))
  . rw [MV] at hci;cases hcs:cs[i]? with
    |none=>rw [hcs] at hci;cases hci
    |some c'=>rw [hcs] at hci;simp only [Ac,AM] at hci;rw [<- hci];exact ih i c' v hcs hvi
 |gp h=>simpa [AV.plain] using VR.gp h
 |ep hi hr=>simpa [AV.plain] using VR.ep hi hr
 |EO=>exact .d .EO
 |HG=>simpa [AV.plain] using VR.HG
 |om h=>simpa [AV.plain] using VR.om h
 |ms h hr hn hm=>simpa [AV.plain] using VR.ms h hr hn hm
 |mv h hr hn hm ho=>simpa [AV.plain] using VR.mv h hr hn hm ho
 |bp h k=>simpa [AV.plain] using VR.bp h k
 |fn hl hl' h h' _ _=>simpa [AV.plain] using VR.fn hl hl' h h'
 |@tup cs vs hl _ ih=>
  refine .tup (by rw [VU];exact hl) (fun i c v hci hvi=>?_);rw [MV] at hci;cases hcs:cs[i]? with
  |none=>rw [hcs] at hci;cases hci
  |some c'=>rw [hcs] at hci;simp only [Ac,AM] at hci;rw [<- hci];exact ih i c' v hcs hvi
 |undef=>simpa [AV.plain] using VR.undef
def VRs.plain {g:Gh} {xs:List AV} {vs:List Value} (h:VRs g xs vs):VRs g (AV.CV xs) vs:=by
 induction h with
 |nil=>exact .nil
 |cons h _ ih=>exact .cons h.plain ih
def AR.plain {f:FuncId} {args:List AV} {Q:AV->AH->Prop} (h:AR P f (AV.CV args) Y Q):AR P f args Y Q:=
 fun base g Pr w0 w vs hr hv=>h base g Pr w0 w vs hr hv.plain
def zN (o:Option AV) (K:AV->AH->Prop) (Y:AH):Prop:=
 match o with
 |some v=>K v Y
 |none=>False
def AO4 (v:AV) (K:AV->AH->Prop) (Y:AH):zN (some v) K Y=K v Y:=(rfl)
def Run.Bg {cx:Cx} {KK:AV->AH->Prop} {k:List CI} (hg:Good cx) (hσ:σ2.le Y) (h:zN ((dL F L Y cx.rs).map AV.plain) KK σ2):Run cx KK (.code .ret::k) F L Y:=by
 cases hr:dL F L Y cx.rs with
 |none=>rw [hr] at h;exact h.elim
 |some v=>rw [hr] at h;exact Run.ret hg hr (fun _ _ h=>h.plain) hσ h
def Run.AV3 {cx:Cx} {KK:AV->AH->Prop} {k:List CI} (hg:Good cx) (hσ:σ2.le Y) (h:zN (dL F L Y cx.rs) KK σ2):Run cx KK (.code .ret::k) F L Y:=by
 cases hr:dL F L Y cx.rs with
 |none=>rw [hr] at h;exact h.elim
 |some v=>rw [hr] at h;exact Run.ret hg hr (fun _ _ h=>h) hσ h
def AJ (Y:AH) (i j:Nat) (cs:List AV):(Y.AL i cs).blk j=if j=i then some cs else Y.blk j:=(rfl)
def Dr (Y:AH) (i:Nat) (cs ds:List AV):(Y.AL i cs).AL i ds=Y.AL i ds:=by
 unfold AH.AL;congr 1;funext j;by_cases h:j=i<;>simp [h]
def FU {Y:AH} (h:Y.blk i=some cs):Y.AL i cs=Y:=by
 unfold AH.AL;cases Y;congr 1;funext j;split
 . rename_i e;subst e;exact h.symm
 . rfl
def PQ (Y:AH) (t i:Nat):(Y.Bq t).blk i=Y.blk i:=(rfl)
def AGY (Y:AH) (t i:Nat):(Y.CP t).blk i=Y.blk i:=(rfl)
def AH.le_trans {a b c:AH} (h:a.le b) (k:b.le c):a.le c:=⟨fun i cs x=>k.blk i cs (h.blk i cs x),fun t x=>k.tok t (h.tok t x),h.gt.trans k.gt,fun i x Z=>k.bt i x (h.bt i x Z)⟩
def CK {Y:AH} (h:Y.blk i=none):Y.le (Y.AL i cs):=
 ⟨fun j ds hj=>by
   have:j≠i:=fun e=>by rw [e,h] at hj;cases hj
   rw [AJ,if_neg this];exact hj,fun _ h=>h,rfl,fun _ _ h=>h⟩
structure CC (Y:AH) (e s:Nat) (rows:List (List DV)) (v:AV) (σ':AH):Prop where
 app:∃σ1,O2 σ' e s v=some (rows,σ1)/\Y.le σ1
 le:Y.le σ'
 plain:v.plain= .d (.sl rows)
 len:Tx v=some (.d (.int .i64 rows.length))
 cell:v.B1=true
 BS:v.BS=true
 CL:∀k,v.CL k=false
 dv:v.dv=some (.sl rows)
 cells:v.cells=[v]
def CC.nil (Y:AH) (e s:Nat):CC Y e s [] .Ad Y:=
 ⟨⟨Y,rfl,AH.le_refl Y⟩,AH.le_refl Y,rfl,rfl,rfl,rfl,fun _=>rfl,rfl,rfl⟩
def CC.own {Y σ':AH} {e s t:Nat} {rows:List (List DV)} (hle:Y.le σ1) (hle':Y.le σ') (ht:σ'.tok t=false):CC Y e s rows (.own t e s rows) (σ1.Bq t):=by
 have hnt:Y.tok t=false:=by
  cases h:Y.tok t with
  |false=>rfl
  |true=>rw [hle'.tok t h] at ht;cases ht
 refine ⟨⟨(σ1.Bq t).CP t,by simp [O2,AH.Bq],⟨fun i cs h=>hle.blk i cs h,fun t' h=>?_,hle.gt,hle.bt⟩⟩,⟨fun i cs h=>hle.blk i cs h,fun t' h=>?_,hle.gt,hle.bt⟩,rfl,rfl,rfl,rfl,fun _=>rfl,rfl,rfl⟩
 . have hne:t'≠t:=fun e=>by rw [e,hnt] at h;cases h
   simp [AH.CP,AH.Bq,hne,hle.tok t' h]
 . have hne:t'≠t:=fun e=>by rw [e,hnt] at h;cases h
   simp [AH.Bq,hne,hle.tok t' h]
def Dh.own {σ0:AH} {d:Option Nat} {e size bytes:Nat} {s x:AV} {rows srows:List (List DV)} (ho:CC σ0 e size rows s Y) (h2:x.rows=some srows)
 (h3:∀r∈srows,r.length=size) (h4:rows.length+srows.length<=1000000000) (hb:bytes<=10000)
 (h:∀v σ',CC σ0 e size (rows++srows) v σ'->(∀i,σ'.blk i=Y.blk i)->K (BL d v F) L σ'):Dh e size bytes s x d K F L Y:=by
 obtain ⟨σ1,ha,hl⟩:=ho.app;refine Dh.mk ha h2 h3 (by simp only [maxLen];omega) ?_ (fun t ht=>h _ _ (CC.own hl ho.le ht) (fun i=>?_))
 . calc (rows.length+srows.length) * bytes<=1000000000 * 10000:=Nat.mul_le_mul h4 hb
    _<=140737488355328:=by decide
 . rw [PQ];unfold O2 at ha;split at ha
   . cases ha;rfl
   . split at ha
     . cases ha;rfl
     . cases ha
   . cases ha
variable {cx:Cx} {KK:AV->AH->Prop} {k:List CI}
def Run.facts {p:Prop} (hp:∀base g lam Pr a w0 w,Bh base g lam Pr cx.N F L Y a w0 w->p) (h:p->Run cx KK k F L Y):Run cx KK k F L Y:=
 fun items base g lam Pr a w0 w b cs hi hf hb hk=>h (hp base g lam Pr a w0 w hf) items base g lam Pr a w0 w b cs hi hf hb hk
def AV.Ev:AV->Prop
 | .d (.sl rows)=>rows.length<=9223372036854775807
 | .d (.str s)=>s.length<=9223372036854775807
 | .d (.int k n)=>k.min<=n/\n<=k.max
 | .own _ _ _ rows=>rows.length<=9223372036854775807
 | .clip rows=>rows.length<=9223372036854775807
 |_=>True
def VR.Ev {g:Gh} {x:AV} {v:Value} (h:VR g x v):x.Ev:=by
 cases h with
 |d h=>
  cases h with
  |int h=>exact h
  |bool=>trivial
  |str h=>exact h
  |nil=>simp [AV.Ev]
  |sl hc hm _ _ _=>exact Af hc hm
  |ptr=>trivial
  |EO=>trivial
 |own h _ _=>obtain ⟨_,_,_,h2⟩:=h.OE;exact h2
 |clip h=>obtain ⟨_,_,_,h2⟩:=h.OE;exact h2
 |_=>trivial
def SV.Ev {g:Gh} {lam:Nat->Option Nat} {x:AV} {v:Value} (h:SV g lam x v):x.Ev:=by
 cases x<;>first|exact VR.Ev h|trivial
def Run.slot (s:Nat) (h:(F s).Ev->Run cx KK k F L Y):Run cx KK k F L Y:=
 Run.facts (fun _ _ _ _ _ _ _ hf=>(hf.tm s).Ev) h
def Run.cell (j o:Nat) {c:AV} (hL:L j=some cs) (hc:cs[o]?=some c) (h:c.Ev->Run cx KK k F L Y):Run cx KK k F L Y:=
 Run.facts (fun _ _ _ _ _ _ _ hf=>by
  obtain ⟨_,b,vs,ty,_,_,_,hr⟩:=hf.loc j cs hL;obtain ⟨v,_,hv⟩:=hr.at o c hc;exact hv.Ev) h
open Go.ChangeShapes Go.WideShapes
inductive RDs (im:Nat->Nat->Option Value):List DV->List Value->Prop
 |nil:RDs im [] []
 |cons {x:DV} {v:Value} {xs:List DV} {vs:List Value} (h:RD im x v) (hs:RDs im xs vs):RDs im (x::xs) (v::vs)
def RDs.length (h:RDs im xs vs):vs.length=xs.length:=by
 induction h with
 |nil=>rfl
 |cons _ _ ih=>simp [ih]
def RDs.idx (h:RDs im xs vs):∀(i:Nat) (x:DV) (v:Value),xs[i]?=some x->vs[i]?=some v->RD im x v:=by
 induction h with
 |nil=>intro i x v Z;simp at Z
 |cons h _ ih=>
  intro i x v Z hv;cases i with
  |zero=>simp at Z hv;subst Z;subst hv;exact h
  |succ i=>exact ih i x v (by simpa using Z) (by simpa using hv)
def RDs.append {ys:List DV} {us:List Value} (h:RDs im xs vs) (k:RDs im ys us):RDs im (xs++ys) (vs++us):=by
 induction h with
 |nil=>exact k
 |cons h _ ih=>exact .cons h ih
def RDs.vrs {g:Gh} (h:RDs g.im xs vs):VRs g (xs.map AV.d) vs:=by
 induction h with
 |nil=>exact .nil
 |cons h _ ih=>exact .cons (.d h) ih
mutual
inductive DT (P:Program):TypeId->List DV->Prop
 |bool {t:TypeId} {b:Bool} (h:P.underlying t=some .bool):DT P t [.bool b]
 |int {t:TypeId} {k:IntKind} {n:Int} (h:P.underlying t=some (.int k)) (hn:k.has n):DT P t [.int k n]
 |str {t:TypeId} {s:List UInt8} (h:P.underlying t=some .string) (hs:s.length<=maxLen):DT P t [.str s]
 |sl {t e:TypeId} {rows:List (List DV)} (h:P.underlying t=some (.slice e)) (hm:rows.length<=maxLen) (hr:∀r∈rows,DT P e r):DT P t [.sl rows]
 |struct {t:TypeId} {fs:Array Field} {ds:List DV} (h:P.underlying t=some (.struct fs)) (hf:DTs P fs.toList ds):DT P t ds
inductive DTs (P:Program):List Field->List DV->Prop
 |nil:DTs P [] []
 |cons {f:Field} {fs:List Field} {a b:List DV} (h:DT P f.type a) (hs:DTs P fs b):DTs P (f::fs) (a++b)
end
def Mw (P:Program) (S:List TypeId):Nat->List Field->Nat->Bool
 |off,[],n=>off==n
 |off,f::fs,n=>f.offset==off&&S.contains f.type&&Mw P S (off+P.cellsOf f.type) fs n
def sR (P:Program) (S:List TypeId) (t:TypeId):Bool:=
 match P.underlying t with
 |some .bool|some (.int _)|some .string=>true
 |some (.slice e)=>S.contains e&&decide (0 < P.cellsOf e)
 |some (.struct fs)=>Mw P S 0 fs.toList (P.cellsOf t)
 |_=>false
def AD2 {α β:Type} {f:α->Option β}:∀ {l:List α} {r:List β},l.mapM f=some r->∀x∈l,∃y,f x=some y
 |[],_,_,x,Z=>by cases Z
 |a::l,r,h,x,Z=>by
  simp only [List.mapM_cons,AT,AB] at h;obtain ⟨y,hy,ys,hys,_⟩:=h;cases Z with
  |head=>exact ⟨y,hy⟩
  |tail _ Z=>exact AD2 hys x Z
def lU {α:Type} (p:Nat->α->Prop):∀n,(∀i,i < n->∃r,p i r)->∃rows:List α,rows.length=n/\∀i r,rows[i]?=some r->p i r
 |0,_=>⟨[],rfl,by simp⟩
 |n+1,h=>by
  obtain ⟨rows,hl,hr⟩:=lU p n (fun i hi=>h i (by omega));obtain ⟨r,hp⟩:=h n (by omega);refine ⟨rows++[r],by simp [hl],fun i r' hi=>?_⟩;by_cases hlt:i < rows.length
  . rw [BC hlt] at hi;exact hr i r' hi
  . rw [As (by omega)] at hi
    have:i - rows.length=0:=by
     rcases KZ (i - rows.length) with h|h
     . exact h
     . rw [BM (by simp;omega)] at hi;cases hi
    rw [this] at hi;simp at hi;subst hi;have:i=n:=by omega
    subst this;exact hp
def imW (w:World):Nat->Nat->Option Value:=fun b o=>w.cell? ⟨b,o,none⟩
def Jy {w:World} {base:Nat} {a:Addr} {cs:List Value} (h:w.cells? base a n=some cs):cs.length=n/\∀j,j < n->w.cell? (a.add j)=cs[j]?:=by
 unfold World.cells? at h;split at h
 . have:∀(l:List Nat) (cs:List Value),l.mapM (fun i=>w.cell? (a.add i))=some cs->cs.length=l.length/\∀(j i:Nat),l[j]?=some i->w.cell? (a.add i)=cs[j]?:=by
    intro l
    induction l with
    |nil=>intro cs h;simp at h;subst h;simp
    |cons x l ih=>
     intro cs h;simp only [List.mapM_cons,AT,AB] at h;obtain ⟨y,hy,ys,hys,he⟩:=h;cases he;obtain ⟨h1,h2⟩:=ih ys hys;refine ⟨by simp [h1],fun j i hj=>?_⟩;cases j with
     |zero=>simp at hj;subst hj;simpa using hy
     |succ j=>simpa using h2 j i (by simpa using hj)
   obtain ⟨h1,h2⟩:=this _ _ h;exact ⟨by simpa using h1,fun j hj=>h2 j j (by simp [hj])⟩
 . cases h
section
variable {H:Type} {enc:TypeId×Value->H} {P:Program} {w:World} {base:Nat} {spare:Nat->Bool} {held:Bool}
def mC {S:List TypeId} {fuel:Nat} {cs:List Value}
 (ih:∀(t:TypeId) (cs:List Value) (x:DataW H×List MemPlace),t∈S->DataW.trod enc P w base spare held fuel t cs=some x->∃ds,DT P t ds/\RDs (imW w) ds cs):
 ∀(fs:List Field) (off:Nat) (n:Nat) (xs:List (DataW H×List MemPlace)),Mw P S off fs n=true->cs.length=n->off<=n->
  fs.mapM (fun f=>DataW.trod enc P w base spare held fuel f.type ((cs.drop f.offset).take (P.cellsOf f.type)))=some xs->∃ds,DTs P fs ds/\RDs (imW w) ds (cs.drop off)
 |[],off,n,xs,hk,hl,_,_=>by
  simp only [Mw,beq_iff_eq] at hk;refine ⟨[],.nil,?_⟩;rw [KW (by omega)];exact .nil
 |f::fs,off,n,xs,hk,hl,hle,h=>by
  simp only [Mw,AO,beq_iff_eq,Ar] at hk;obtain ⟨⟨h1,h2⟩,h3⟩:=hk;simp only [List.mapM_cons,AT,AB] at h;obtain ⟨y,hy,ys,hys,_⟩:=h;obtain ⟨a,ha,har⟩:=ih _ _ _ h2 hy
  have hoff:∀(fs:List Field) (off n:Nat),Mw P S off fs n=true->off<=n:=by
   intro fs
   induction fs with
   |nil=>intro off n h;simp only [Mw,beq_iff_eq] at h;omega
   |cons f fs ih=>intro off n h;simp only [Mw,AO] at h;have:=ih _ _ h.2;omega
  obtain ⟨b,hb,hbr⟩:=mC ih fs (off+P.cellsOf f.type) n ys h3 hl (hoff _ _ _ h3) hys;refine ⟨a++b,.cons ha hb,?_⟩;have:=har.append hbr;rw [h1] at this;rw [<- Es,A7] at this;exact this
def AKP {S:List TypeId} (hS:S.all (sR P S)=true):∀(fuel:Nat) (t:TypeId) (cs:List Value) (x:DataW H×List MemPlace),t∈S->DataW.trod enc P w base spare held fuel t cs=some x->∃ds,DT P t ds/\RDs (imW w) ds cs
 |0,t,cs,x,_,h=>by simp [DataW.trod] at h
 |fuel+1,t,cs,x,ht,h=>by
  have ih:=AKP hS fuel;have hp:sR P S t=true:=Aj.1 hS t ht;unfold sR at hp;unfold DataW.trod at h;cases hu:P.underlying t with
  |none=>rw [hu] at hp;cases hp
  |some u=>
   rw [hu] at hp h;cases u<;>simp only [A1] at hp
   case bool=>
    split at h<;>(try (cases h;done))<;>rename_i h1<;>cases h1;exact ⟨[.bool _],.bool hu,.cons .bool .nil⟩
   case int k=>
    split at h<;>(try (cases h;done))<;>rename_i h1<;>cases h1;split at h
    . rename_i hk;obtain ⟨rfl,hk⟩:=hk;simp only [Lit.wf,AO,decide_eq_true_eq] at hk;exact ⟨[.int _ _],.int hu (by simpa [IntKind.has] using hk),.cons (.int (by simpa [IntKind.has] using hk)) .nil⟩
    . cases h
   case string=>
    split at h<;>(try (cases h;done))<;>rename_i h1<;>cases h1;split at h
    . rename_i s hk;have hk':s.data.toList.length<=maxLen:=by rw [Ir];exact hk
      refine ⟨[.str s.data.toList],.str hu hk',.cons ?_ .nil⟩;have:(⟨s.data.toList.toArray⟩:ByteArray)=s:=by cases s;simp
      have h2:=RD.str (im:=imW w) (s:=s.data.toList) hk'
      rwa [this] at h2
    . cases h
   case slice e=>
    simp only [AO,Ar,decide_eq_true_eq] at hp;obtain ⟨he,hpos⟩:=hp;split at h<;>(try (cases h;done))<;>rename_i h1<;>cases h1
    . exact ⟨[.sl []],.sl hu (by simp) (by simp),.cons (.nil (FO _) (fun _=>rfl)) .nil⟩
    . rename_i a len cap;simp only at h;split at h
      . rename_i hc;obtain ⟨_,hlc,hcm⟩:=hc;simp only [AB] at h;obtain ⟨elems,hel,_⟩:=h;have hall:=AD2 hel
        have:∀i,i < len->∃r,DT P e r/\∃cs,w.cells? base (a.add (i * P.cellsOf e)) (P.cellsOf e)=some cs/\RDs (imW w) r cs:=by
         intro i hi;obtain ⟨y,hy⟩:=hall i (by simp [hi]);simp only [AB] at hy;obtain ⟨cs,hcs,hy⟩:=hy;obtain ⟨r,h1,h2⟩:=ih _ _ _ he hy;exact ⟨r,h1,cs,hcs,h2⟩
        obtain ⟨rows,hl,hr⟩:=lU _ len this;refine ⟨[.sl rows],.sl hu (by omega) (fun r hr'=>?_),.cons ?_ .nil⟩
        . obtain ⟨i,hi,rfl⟩:=Bv hr';exact (hr i _ (by simp [hi])).1
        . rcases KZ len with h0|h0
          . subst h0;have:rows=[]:=An hl;subst this;exact .nil hcm (fun h=>by cases h)
          . obtain ⟨b,off,spot⟩:=a
            have hspot:spot=none:=by
             obtain ⟨_,_,cs,hcs,_⟩:=this 0 h0;have h2:=(Jy hcs).2 0 hpos;have h3:0 < cs.length:=by rw [(Jy hcs).1];exact hpos
             rw [Ay h3] at h2;simpa [Addr.add] using World.cell?_spot h2
            subst hspot;subst hl;refine .sl (size:=P.cellsOf e) (f:=fun i j=>((imW w) b (off+i * P.cellsOf e+j)).getD Cl) hlc hcm (fun r hr'=>?_) (fun i j hi hj=>?_) (fun i r j x hi hj=>?_)
            . obtain ⟨i,hi,rfl⟩:=Bv hr';obtain ⟨_,cs,hcs,hrd⟩:=hr i rows[i] (Ay hi);exact hrd.length.symm.trans (Jy hcs).1
            . obtain ⟨r,hri⟩:∃r,rows[i]?=some r:=⟨rows[i],by simp [hi]⟩;obtain ⟨_,cs,hcs,hrd⟩:=hr i r hri;have h2:=(Jy hcs).2 j hj;have h3:j < cs.length:=by rw [(Jy hcs).1];exact hj
              rw [Ay h3] at h2;have h4:imW w b (off+i * P.cellsOf e+j)=some cs[j]:=by rw [Addr.add_lit,Addr.add_lit] at h2;exact h2
              rw [h4];rfl
            . obtain ⟨_,cs,hcs,hrd⟩:=hr i r hi;have hj':j < r.length:=(AE.1 hj).1;have hjn:j < P.cellsOf e:=by have:=hrd.length;rw [(Jy hcs).1] at this;omega
              have h2:=(Jy hcs).2 j hjn;have h3:j < cs.length:=by rw [(Jy hcs).1];exact hjn
              rw [Ay h3] at h2;have h4:imW w b (off+i * P.cellsOf e+j)=some cs[j]:=by rw [Addr.add_lit,Addr.add_lit] at h2;exact h2
              rw [h4];exact hrd.idx j x cs[j] hj (by simp [h3])
      . cases h
   case struct fs=>
    simp only at h;split at h
    . rename_i hc;simp only [AK] at h;obtain ⟨xs,hxs,_⟩:=h;obtain ⟨ds,h1,h2⟩:=mC ih fs.toList 0 _ xs hp hc (FO _) hxs;exact ⟨ds,.struct hu h1,by simpa using h2⟩
    . cases h
end
def ALJ (P:Program) (t:TypeId) (ds:List DV):AV:=
 match P.underlying t with
 |some (.struct _)=>.agg (ds.map AV.d)
 |_=>match ds with|[x]=>.d x|_=>.undef
def lS {P:Program} {t:TypeId} {fs:Array Field} (h:P.underlying t=some (.struct fs)) (ds:List DV):ALJ P t ds= .agg (ds.map AV.d):=by
 unfold ALJ;rw [h]
def APK {P:Program} {t:TypeId} {u:TypeDesc} (h:P.underlying t=some u) (hn:∀fs,u≠.struct fs) (x:DV):ALJ P t [x]= .d x:=by
 unfold ALJ;rw [h];cases u<;>first|rfl|exact absurd rfl (hn _)
inductive pK (P:Program):List TypeId->List AV->Prop
 |nil:pK P [] []
 |cons {t:TypeId} {ts:List TypeId} {ds:List DV} {avs:List AV} (h:DT P t ds) (hs:pK P ts avs):pK P (t::ts) (ALJ P t ds::avs)
section
variable {H:Type} {enc:TypeId×Value->H} {P:Program} {w:World} {held:Bool}
def yP {S:List TypeId} (hS:S.all (sR P S)=true) {g:Gh} (hg:g.im=imW w) {b:Nat} {spare:Nat->Bool} {base:Nat}:∀(ts:List TypeId) (vs:List Value) (ds:List (DataW H)) (ps:List MemPlace),
 (∀t∈ts,t∈S)->(∀(j:Nat) t v,ts[j]?=some t->vs[j]?=some v->Value.okWide P w .any base t v)->DataW.TrodAll enc P w b spare held ts vs ds ps->∃avs,pK P ts avs/\VRs g avs vs
 |[],[],[],_,_,_,_=>⟨[],.nil,.nil⟩
 |t::ts,v::vs,d::ds,ps,hin,hok,h=>by
  obtain ⟨p,q,⟨fuel,hd⟩,hrest,_⟩:=h;obtain ⟨avs,h1,h2⟩:=yP hS hg ts vs ds q (fun t ht=>hin t (by simp [ht])) (fun j t v ht hv=>hok (j+1) t v (by simpa using ht) (by simpa using hv)) hrest;obtain ⟨dv,h3,h4⟩:=AKP hS fuel t _ _ (hin t (by simp)) hd;refine ⟨ALJ P t dv::avs,.cons h3 h1,.cons ?_ h2⟩;have ho:=hok 0 t v rfl rfl;rw [<- hg] at h4;cases hu:P.underlying t with
  |none=>cases h3<;>simp_all
  |some u=>
   by_cases hs:∃fs,u= .struct fs
   . obtain ⟨fs,rfl⟩:=hs;rw [lS hu];unfold Value.okWide at ho;rw [hu] at ho;simp only at ho;obtain ⟨cs,rfl,_,_⟩:=ho;have h5:=h4.vrs;simp only [Value.cells] at h5;have:=VR.agg (g:=g) (cs:=dv.map AV.d) (vs:=cs.toList) (by simpa using h5.length) (by simp [AV.B1]) (fun i c v hc hv=>h5.idx i c v hc hv);simpa using this
   . have hns:∀fs,u≠.struct fs:=fun fs e=>hs ⟨fs,e⟩
     have hone:∃x,dv=[x]:=by
      cases h3 with
      |struct h _=>rw [hu] at h;cases h;exact absurd rfl (hns _)
      |_=>exact ⟨_,rfl⟩
     obtain ⟨x,rfl⟩:=hone;rw [APK hu hns];generalize hcv:v.cells.toList=cv at h4;cases h4 with
     |cons Z hn=>
      cases hn;rename_i v'
      have:v=v':=by
       unfold Value.okWide at ho;rw [hu] at ho;cases v<;>try (simpa [Value.cells] using hcv)
       exfalso;cases h3 with
       |bool h=>rw [hu] at h;cases h;simp [Cell.okWide,hu,Cell.ok] at ho
       |int h=>rw [hu] at h;cases h;simp [Cell.okWide,hu,Cell.ok] at ho
       |str h=>rw [hu] at h;cases h;simp [Cell.okWide,hu,Cell.ok] at ho
       |sl h=>rw [hu] at h;cases h;simp [Cell.okWide,hu,Cell.ok] at ho
       |struct h=>rw [hu] at h;cases h;exact absurd rfl (hns _)
      subst this;exact .d Z
 |[],_::_,_,_,_,_,h=>by cases h
 |[],[],_::_,_,_,_,h=>by cases h
 |_::_,[],_,_,_,_,h=>by cases h
 |_::_,_::_,[],_,_,_,h=>by cases h
def AI6 (w:World):Gh:=⟨imW w,fun _=>none,fun _=>none,fun _=>none⟩
def TC (gt:Nat->Option (Array Value)):AH:=⟨fun _=>none,fun _=>false,gt,fun _=>none⟩
def AOP (w:World) {gt:Nat->Option (Array Value)} (hgt:∀b vs,gt b=some vs->∃ty fr,w.heap[b]?=some (.cells vs ty fr)):Rel w.heap.size (AI6 w) (fun _=>False) (TC gt) w w:=
 ⟨fun _ _ _ h=>h,fun _ _ h=>by simp [TC] at h,fun _ _ _ h=>by simp [TC] at h,fun _ h=>by simp [TC] at h,fun _ h=>h.elim,Below.refl _ _,AS _,⟨0,fun _ _=>⟨rfl,rfl,rfl⟩⟩,⟨fun b vs h=>by
   obtain ⟨ty,fr,hb⟩:=hgt b vs h;exact ⟨(Mj.1 hb).1,ty,fr,hb⟩,fun _ _ h=>by simp [TC] at h⟩⟩
def bE (hl:laidOutB P=true) {W W':World} (hb:Below W.heap.size W W'):∀(ts:List TypeId) (vs:List Value) (ds:List (DataW H)) (ps:List MemPlace),(∀t∈ts,P.readableRec t=true/\t < P.types.size)->
 (∀x∈ps,x.block < W.heap.size)->DataW.TrodAll enc P W 0 (fun _=>true) true ts vs ds ps->DataW.TrodAll enc P W' 0 (fun b=>decide (b < W.heap.size)) true ts vs ds ps
 |[],[],[],_,_,_,h=>h
 |t::ts,v::vs,d::ds,ps,hr,hlt,h=>by
  obtain ⟨p,q,h1,h2,rfl⟩:=h;exact ⟨p,q,Below.trod hl (hr t (by simp)).1 (hr t (by simp)).2 h1 hb (fun x Z=>hlt x (by simp [Z])),bE hl hb ts vs ds q (fun t ht=>hr t (by simp [ht])) (fun x Z=>hlt x (by simp [Z])) h2,rfl⟩
 |[],_::_,_,_,_,_,h=>by cases h
 |[],[],_::_,_,_,_,h=>by cases h
 |_::_,[],_,_,_,_,h=>by cases h
 |_::_,_::_,[],_,_,_,h=>by cases h
def wH {fn:Func} {s:ChangeSpec} {f:FuncId} {gt:Nat->Option (Array Value)} (S:List TypeId) (hl:laidOutB P=true) (hS:S.all (sR P S)=true) (hin:∀t∈fn.params.toList,t∈S)
 (hread:∀t∈fn.params.toList,P.readableRec t=true/\t < P.types.size) {tb:TypeId} (hres:fn.resultTypes=#[tb]) (htb:P.underlying tb=some .bool) (hvars:s.vars=[])
 (hs:∀ds:List (DataW H),ds.length=fn.params.size->s.fn H ds= { results:=[.lit (.bool true)],args:=ds})
 (main:∀avs:List AV,pK P fn.params.toList avs->AR P f avs (TC gt) (fun v _=>v= .d (.bool true)))
 (W:World) (hgt:∀b vs,gt b=some vs->∃ty fr,W.heap[b]?=some (.cells vs ty fr)) (base:Nat) (args:Array Value) (ds gs:List (DataW H)) (before:List MemPlace)
 (hval:∀(j:Nat) t v,fn.params[j]?=some t->args[j]?=some v->Value.okWide P W .any base t v)
 (hW:DataW.Whole enc P fn.params.toList s.vars false W args.toList ds gs before):
 Calls P f args W fun e W'=>∃v,e= .returned v/\s.post enc P fn false true false false W args v W':=by
 have hW':=hW;obtain ⟨p,q,hA,hV,rfl,hfz,hnd⟩:=hW;rw [hvars] at hV;obtain ⟨rfl,rfl⟩:=trodVars_none hV;obtain ⟨avs,h1,h2⟩:=yP hS (g:=AI6 W) rfl fn.params.toList args.toList ds p hin (fun j t v ht hv=>hval j t v (by simpa using ht) (by simpa using hv)) hA;have hc:=main avs h1 W.heap.size (AI6 W) (fun _=>False) W W args.toList (AOP W hgt) h2;simp only [Array.toArray_toList] at hc;refine hc.mono fun e W' ⟨v,av,g',σ',he,hv,hrel,_,_,hav⟩=>?_;subst hav;have hvt:v= .bool true:=by cases hv with|d h=>cases h;rfl
 subst hvt
 have hlen:ds.length=fn.params.size:=by
  have:∀(ts:List TypeId) (vs:List Value) (ds:List (DataW H)) (ps:List MemPlace),DataW.TrodAll enc P W 0 (fun _=>true) true ts vs ds ps->ds.length=ts.length:=by
   intro ts
   induction ts with
   |nil=>intro vs ds ps h;cases vs<;>cases ds<;>first|rfl|(cases h;done)
   |cons t ts ih=>
    intro vs ds ps h;cases vs<;>cases ds<;>try (cases h;done)
    obtain ⟨_,_,_,h2,_⟩:=h;simpa using ih _ _ _ h2
  simpa using this _ _ _ _ hA
 have hlt:∀x∈p,x.block < W.heap.size:=fun x Z=>by simpa using hW'.lt x (by simp [Z])
 have hfn:=hs (ds++[]) (by simpa using hlen);refine ⟨_,he,ds,[],p++[],[],p,[],hW',?_,?_,?_,hrel.bel.frame _,fun h=>by cases h⟩
 . rw [hfn,hres];exact trodAll_mk1 ⟨1,by simp [DataW.trod,htb,Value.cells]⟩
 . rw [hfn];simpa using bE hl hrel.bel fn.params.toList args.toList ds p hread hlt hA
 . rw [hfn,hvars];rfl
end
variable {P:Program} {ti e:TypeId} {ds:List DV}
def DT.AAP {k:IntKind} (h:DT P ti ds) (hu:P.underlying ti=some (.int k)):∃n,ds=[.int k n]/\k.has n:=by
 cases h with
 |int h hn=>rw [hu] at h;cases h;exact ⟨_,rfl,hn⟩
 |bool h=>rw [hu] at h;cases h
 |str h=>rw [hu] at h;cases h
 |sl h=>rw [hu] at h;cases h
 |struct h=>rw [hu] at h;cases h
def DT.VF (h:DT P ti ds) (hu:P.underlying ti=some .string):∃s,ds=[.str s]/\s.length<=maxLen:=by
 cases h with
 |str h hs=>exact ⟨_,rfl,hs⟩
 |int h=>rw [hu] at h;cases h
 |bool h=>rw [hu] at h;cases h
 |sl h=>rw [hu] at h;cases h
 |struct h=>rw [hu] at h;cases h
def DT.YM (h:DT P ti ds) (hu:P.underlying ti=some (.slice e)):∃rows,ds=[.sl rows]/\rows.length<=maxLen/\∀r∈rows,DT P e r:=by
 cases h with
 |sl h hm hr=>rw [hu] at h;cases h;exact ⟨_,rfl,hm,hr⟩
 |int h=>rw [hu] at h;cases h
 |bool h=>rw [hu] at h;cases h
 |str h=>rw [hu] at h;cases h
 |struct h=>rw [hu] at h;cases h
def DT.Jr {fs:Array Field} (h:DT P ti ds) (hu:P.underlying ti=some (.struct fs)):DTs P fs.toList ds:=by
 cases h with
 |struct h hf=>rw [hu] at h;cases h;exact hf
 |int h=>rw [hu] at h;cases h
 |bool h=>rw [hu] at h;cases h
 |str h=>rw [hu] at h;cases h
 |sl h=>rw [hu] at h;cases h
def DTs.Cz {f:Field} {fs:List Field} (h:DTs P (f::fs) ds):∃a b,ds=a++b/\DT P f.type a/\DTs P fs b:=by
 cases h with
 |cons h hs=>exact ⟨_,_,rfl,h,hs⟩
def DTs.VE (h:DTs P [] ds):ds=[]:=by cases h;rfl
def LB {α:Type} {f:α->List DV}:∀(rows:List (List DV)),(∀r∈rows,∃x,r=f x)->∃l:List α,rows=l.map f
 |[],_=>⟨[],rfl⟩
 |r::rows,h=>by
  obtain ⟨x,Z⟩:=h r (by simp);obtain ⟨l,hl⟩:=LB rows (fun r hr=>h r (by simp [hr]));exact ⟨x::l,by rw [Z,hl];rfl⟩
variable {P:Program} {base N:Nat} {g g':Gh} {Pr:Nat->Prop} {Y σ':AH} {w0 w w':World} {lam:Nat->Option Nat} {F F':Fm} {L L':Lm} {a:Act}
def VR.data {c:AV} {v:Value} {x:DV} (h:VR g c v) (hd:c.dv=some x):RD g.im x v:=by
 cases h<;>simp only [AV.dv,AM] at hd<;>try (cases hd;done)
 . subst hd;assumption
 . subst hd;exact .nil (FO _) (fun _=>rfl)
 . subst hd;assumption
 . subst hd;assumption
 . subst hd;exact .EO
mutual
def frz (i n:Nat) (rows:List (List DV)):AV->AV
 | .ms j m s e=>if j=i/\m=n then .d (.sl rows) else .ms j m s e
 | .agg cs=>.agg (T5 i n rows cs)
 | .tup cs=>.tup (T5 i n rows cs)
 |v=>v
def T5 (i n:Nat) (rows:List (List DV)):List AV->List AV
 |[]=>[]
 |v::l=>frz i n rows v::T5 i n rows l
end
def Xj (i n:Nat) (rows:List (List DV)):∀l:List AV,(T5 i n rows l).length=l.length
 |[]=>rfl
 |v::l=>by simp [T5,Xj i n rows l]
def fB (i n:Nat) (rows:List (List DV)):∀(l:List AV) (k:Nat),(T5 i n rows l)[k]?=(l[k]?).map (frz i n rows)
 |[],k=>by simp [T5]
 |v::l,0=>by simp [T5]
 |v::l,k+1=>by simp [T5,fB i n rows l k]
def ADH {rows:List (List DV)} (h:v.B1=true):(frz i n rows v).B1=true:=by
 cases v<;>first|exact h|(simp only [frz];split<;>rfl)|(simp [AV.B1] at h)
def AAE {i n:Nat} {rows:List (List DV)}:∀ {l:List AV},Ax l=true->Ax (T5 i n rows l)=true
 |[],_=>rfl
 |v::l,h=>by
  simp only [Ax,BO,AO] at h;simp only [T5,Ax,BO,AO];exact ⟨ADH h.1,AAE (l:=l) h.2⟩
def VR.frz {i n b:Nat} {rows:List (List DV)} (hg:g.le g') (hm:g.mu i=some b) (hrow:∀cap,n<=cap->cap<=maxLen->RD g'.im (.sl rows) (.slice (some ⟨b,0,none⟩) n cap)) {x:AV} {v:Value} (h:VR g x v):VR g' (frz i n rows x) v:=by
 induction h with
 |d h=>simpa [Ab.frz] using VR.d (h.mono hg.im)
 |Ad=>simpa [Ab.frz] using VR.Ad
 |own h ht hs=>simpa [Ab.frz] using VR.own (h.mono hg.im) (hg.tau _ _ ht) hs
 |clip h=>simpa [Ab.frz] using VR.clip (h.mono hg.im)
 |mv h hr hn hm ho=>simpa [Ab.frz] using VR.mv (hg.mu _ _ h) (hg.rm _ _ hr) hn hm ho
 |bp ht him=>simpa [Ab.frz] using VR.bp (hg.tau _ _ ht) (fun j x Z=>hg.im _ _ _ (him j x Z))
 |@agg cs vs hl hc _ ih=>
  refine .agg (by rw [Xj];exact hl) (fun c hcm=>?_) (fun k c v hci hvi=>?_)
  . obtain ⟨k,hk,rfl⟩:=Bv hcm;have:=fB i n rows cs k;rw [Ay hk] at this;cases hcs:cs[k]? with
    |none=>rw [hcs] at this;cases this
    |some c'=>rw [hcs] at this;simp only [Ac,AM] at this;rw [this];exact ADH (hc c' (AD hcs))
  . rw [fB] at hci;cases hcs:cs[k]? with
    |none=>rw [hcs] at hci;cases hci
    |some c'=>rw [hcs] at hci;simp only [Ac,AM] at hci;rw [<- hci];exact ih k c' v hcs hvi
 |gp h=>simpa [Ab.frz] using VR.gp (hg.mu _ _ h)
 |ep hi hr=>simpa [Ab.frz] using VR.ep (fun j hj=>hg.im _ _ _ (hi j hj)) (fun j x Z=>(hr j x Z).mono hg.im)
 |EO=>simpa [Ab.frz] using VR.EO
 |HG=>simpa [Ab.frz] using VR.HG
 |om h=>simpa [Ab.frz] using VR.om (hg.tau _ _ h)
 |@ms j m s e b' cap h hr hn hmx=>
  simp only [Ab.frz];split
  . rename_i e;obtain ⟨rfl,rfl⟩:=e;rw [hm] at h;cases h;exact .d (hrow cap hn hmx)
  . exact .ms (hg.mu _ _ h) (hg.rm _ _ hr) hn hmx
 |fn hl hl' h h' _ _=>simpa [Ab.frz] using VR.mono hg (VR.fn hl hl' h h')
 |@tup cs vs hl _ ih=>
  refine .tup (by rw [Xj];exact hl) (fun k c v hci hvi=>?_);rw [fB] at hci;cases hcs:cs[k]? with
  |none=>rw [hcs] at hci;cases hci
  |some c'=>rw [hcs] at hci;simp only [Ac,AM] at hci;rw [<- hci];exact ih k c' v hcs hvi
 |undef=>simpa [Ab.frz] using VR.undef
def VRs.T5 {b:Nat} {rows:List (List DV)} (hg:g.le g') (hm:g.mu i=some b) (hrow:∀cap,n<=cap->cap<=maxLen->RD g'.im (.sl rows) (.slice (some ⟨b,0,none⟩) n cap)) {xs:List AV} (h:VRs g xs vs):VRs g' (T5 i n rows xs) vs:=by
 induction h with
 |nil=>exact .nil
 |cons h _ ih=>exact .cons (h.frz hg hm hrow) ih
def AJY:∀ {cs:List AV} {ds:List DV},dvs cs=some ds->ds.length=cs.length/\∀(k:Nat) (c:AV) (x:DV),cs[k]?=some c->ds[k]?=some x->c.dv=some x
 |[],ds,h=>by simp only [dvs,AM] at h;subst h;simp
 |c::cs,ds,h=>by
  simp only [dvs,AT,AB] at h;obtain ⟨x,Z,ys,hys,he⟩:=h;cases he;obtain ⟨h1,h2⟩:=AJY hys;refine ⟨by simp [h1],fun k c' x' hc hx'=>?_⟩;cases k with
  |zero=>simp at hc hx';subst hc;subst hx';exact Z
  |succ k=>exact h2 k c' x' (by simpa using hc) (by simpa using hx')
def Lw (size:Nat):∀(n:Nat) (l:List DV),(chunk size n l).length=n
 |0,_=>rfl
 |n+1,l=>by simp [chunk,Lw size n]
def iV (size:Nat):∀(n:Nat) (l:List DV) (i:Nat) (r:List DV),(chunk size n l)[i]?=some r->r=(l.drop (i * size)).take size
 |0,_,i,r,h=>by simp [chunk] at h
 |n+1,l,0,r,h=>by simp [chunk] at h;simp [h]
 |n+1,l,i+1,r,h=>by
  have:=iV size n (l.drop size) i r (by simpa [chunk] using h);rw [this,Es];congr 2;rw [Bs];omega
def Rel.freeze (h:Rel base g Pr Y w0 w) {size:Nat} {ds:List DV} (hi:Y.blk i=some cs) (hd:dvs cs=some ds) (hl:cs.length=n * size) (hn:n<=maxLen) (hσ:∀j cs',σ'.blk j=some cs'->j≠i/\∃cs0,Y.blk j=some cs0/\(cs'=cs0\/cs'=T5 i n (chunk size n ds) cs0))
 (ht:∀t,σ'.tok t=true->Y.tok t=true) (hgt:σ'.gt=Y.gt) (hbt:σ'.bt=Y.bt):
 ∃g' b,g.le g'/\g.mu i=some b/\(∀cap,n<=cap->cap<=maxLen->RD g'.im (.sl (chunk size n ds)) (.slice (some ⟨b,0,none⟩) n cap))/\Rel base g' Pr σ' w0 w:=by
 obtain ⟨b,hb,ho⟩:=h.shr i cs hi;obtain ⟨vs0,ty,hv,hl0,hrt0,hr0⟩:=ho.row;obtain ⟨vs,hvs⟩:∃vs:Array Value,vs=(vs0.toList.take cs.length).toArray:=⟨_,rfl⟩;have hr:VRs g cs vs.toList:=by rw [hvs];simpa using hr0
 have hvl:vs.size=cs.length:=by simpa using hr.length
 let g2:Gh:= { g with im:=fun b' o=>if b'=b then vs[o]? else g.im b' o}
 have hle:g.le g2:=⟨fun b' o v hv'=>by
  have:b'≠b:=fun e=>by subst e;rw [ho.im o] at hv';cases hv'
  show (if b'=b then vs[o]? else g.im b' o)=some v;rw [if_neg this];exact hv',fun _ _ h=>h,fun _ _ h=>h,fun _ _ h=>h⟩
 have hcell:∀o v,vs[o]?=some v->w.cell? ⟨b,o,none⟩=some v:=fun o v hov=>by
  have hov0:vs0[o]?=some v:=by
   rw [hvs] at hov;simp only [List.getElem?_toArray,B2] at hov;split at hov
   . simpa using hov
   . cases hov
  unfold World.cell?;simp [hv,hov0]
 obtain ⟨hdl,hdg⟩:=AJY hd
 have hrow:∀cap,n<=cap->cap<=maxLen->RD g2.im (.sl (chunk size n ds)) (.slice (some ⟨b,0,none⟩) n cap):=by
  intro cap hcap hcm;rcases KZ n with h0|h0
  . subst h0;exact .nil hcm (fun h=>by cases h)
  . have:=RD.sl (im:=g2.im) (rows:=chunk size n ds) (b:=b) (off:=0) (cap:=cap) (size:=size) (f:=fun i j=>(vs[i * size+j]?).getD Cl) (by rw [Lw];exact hcap) hcm
     (fun r hr'=>?_) (fun k j hk hj=>?_) (fun k r j x hk hj=>?_)
    . rw [Lw] at this;exact this
    . obtain ⟨k,hk,rfl⟩:=Bv hr';rw [Lw] at hk;have:=iV size n ds k _ (by rw [Ay (by rw [Lw];exact hk)]);rw [this,B5,Df];have h1:(k+1) * size<=n * size:=Bi _ hk;rw [Bs] at h1;omega
    . rw [Lw] at hk;have h1:(k+1) * size<=n * size:=Bi _ hk;rw [Bs] at h1;have hlt:k * size+j < vs.size:=by omega
      show (if b=b then vs[0+k * size+j]? else _)=_;rw [if_pos rfl,BF,OF hlt];rfl
    . have hkn:k < n:=by have:=(AE.1 hk).1;rw [Lw] at this;exact this
      have:=iV size n ds k r hk;subst this;rw [B2] at hj;split at hj
      . rename_i hjs;rw [BN] at hj;have hlt:k * size+j < cs.length:=by rw [<- hdl];exact (AE.1 hj).1
        have hc:=hdg (k * size+j) cs[k * size+j] x (by simp [hlt]) hj;have hvv:vs.toList[k * size+j]?=some (vs[k * size+j]'(by omega)):=by simp
        have hvr:=hr.idx (k * size+j) cs[k * size+j] _ (Ay hlt) hvv;have:=(hvr.data hc).mono hle.im;rw [OF (by omega)];exact this
      . cases hj
 refine ⟨g2,b,hle,hb,hrow,?_⟩
 have hn':∀j,σ'.blk j≠none->Y.blk j≠none/\j≠i:=fun j hj=>by
  cases hc:σ'.blk j with
  |none=>exact absurd hc hj
  |some c=>obtain ⟨h1,c0,h2,_⟩:=hσ j c hc;exact ⟨by rw [h2];simp,h1⟩
 have hbi:Y.blk i≠none:=by rw [hi];simp
 refine ⟨fun b' o v hv'=>?_,fun j cs' hj=>?_,fun j k b' hj hk=>h.inj j k b' (hn' j hj).1 (hn' k hk).1,fun t htk=>?_,fun b' hp=>?_,h.bel,h.bs,h.fin,h.st.mono hle hgt hbt⟩
 . by_cases e:b'=b
   . have hv2:(if b'=b then vs[o]? else g.im b' o)=some v:=hv';rw [if_pos e] at hv2;rw [e];exact hcell o v hv2
   . have hv2:(if b'=b then vs[o]? else g.im b' o)=some v:=hv';rw [if_neg e] at hv2;exact h.im b' o v hv2
 . obtain ⟨hji,cs0,h0,hcs⟩:=hσ j cs' hj;obtain ⟨b',hb',ho'⟩:=h.shr j cs0 h0;obtain ⟨vs',ty',hv',hl',ht',hr'⟩:=ho'.row;have hne:b'≠b:=fun e=>hji (h.inj j i b (by rw [h0];simp) hbi (e ▸ hb') hb);refine ⟨b',hb',?_,⟨vs',ty',hv',?_,ht',?_⟩,ho'.low,fun o=>?_,ho'.pr⟩
   . rcases hcs with rfl|rfl
     . exact ho'.ok
     . exact AAE ho'.ok
   . rcases hcs with rfl|rfl
     . exact hl'
     . rw [Xj];exact hl'
   . rcases hcs with rfl|rfl
     . exact hr'.mono hle
     . rw [Xj];exact hr'.T5 hle hb hrow
   . show (if b'=b then vs[o]? else g.im b' o)=none;rw [if_neg hne];exact ho'.im o
 . obtain ⟨v,e,size',n',xs,hmt,hown,hrest⟩:=(h.tok t (ht t htk)).row;refine ⟨v,e,size',n',xs,hmt,hown,fun b' hvb=>?_⟩;obtain ⟨h1,h2,h3,h4⟩:=hrest b' hvb;have hne:b'≠b:=fun e=>h3 i hbi (e ▸ hb);refine ⟨fun o ho'=>?_,h2,fun j hj=>h3 j (hn' j hj).1,fun t' v' e' s' hne' ht'=>h4 t' v' e' s' hne' (ht t' ht')⟩;show (if b'=b then vs[o]? else g.im b' o)=none;rw [if_neg hne];exact h1 o ho'
 . have hne:b'≠b:=fun e=>ho.pr (e ▸ hp);refine ⟨(h.pr b' hp).1,fun o=>?_⟩;show (if b'=b then vs[o]? else g.im b' o)=none;rw [if_neg hne];exact (h.pr b' hp).2 o
variable {cx:Cx} {K:AV->AH->Prop} {k:List CI}
def Run.freeze {i n size:Nat} {cs:List AV} {ds:List DV} (hi:Y.blk i=some cs) (hd:dvs cs=some ds) (hl:cs.length=n * size) (hn:n<=maxLen)
 (hF:∀s,F' s=F s\/F' s=frz i n (chunk size n ds) (F s)) (hL:∀k cs',L' k=some cs'->∃cs0,L k=some cs0/\(cs'=cs0\/cs'=T5 i n (chunk size n ds) cs0))
 (hσ:∀j cs',σ'.blk j=some cs'->j≠i/\∃cs0,Y.blk j=some cs0/\(cs'=cs0\/cs'=T5 i n (chunk size n ds) cs0)) (ht:∀t,σ'.tok t=true->Y.tok t=true)
 (h:Run cx K k F' L' σ') (hgt:σ'.gt=Y.gt:=by rfl) (hbt:σ'.bt=Y.bt:=by rfl):Run cx K k F L Y:=by
 intro items base g lam Pr a w0 w b cs0 hi0 hf hb hk;obtain ⟨g',bb,hle,hmu,hrow,hrel⟩:=hf.rel.freeze hi hd hl hn hσ ht hgt hbt
 have hf':Bh base g' lam Pr cx.N F' L' σ' a w0 w:=by
  refine ⟨fun s=>?_,hf.sz,hf.df,fun k' cs' hk'=>?_,hf.inj,hf.npr,hrel⟩
  . have hs:=hf.tm s
    have hsm:SV g' lam (F s) (a.tmps.getD s Cl):=by
     generalize F s=fs at hs;cases fs<;>first|exact VR.mono hle hs|exact hs
    rcases hF s with e|e
    . rw [e];exact hsm
    . rw [e];generalize F s=fs at hs hsm;cases fs<;>first|exact hsm|exact SV.FT (VR.frz hle hmu hrow hs)
  . obtain ⟨c0,h0,hc⟩:=hL k' cs' hk';obtain ⟨hok,b',vs,ty,h1,h2,h3,h4⟩:=hf.loc k' c0 h0;refine ⟨?_,b',vs,ty,h1,h2,h3,?_⟩
    . rcases hc with rfl|rfl
      . exact hok
      . exact AAE hok
    . rcases hc with rfl|rfl
      . exact h4.mono hle
      . exact h4.T5 hle hmu hrow
 obtain ⟨v,w',fr,hs,hfn,hlv,av,g2,σ2,h1,h2,h3,h4,h5⟩:=h items base g' lam Pr a w0 w b cs0 hi0 hf' hb hk;exact ⟨v,w',fr,hs,hfn,hlv,av,g2,σ2,h1,h2,Gh.le_trans hle h3,h4,h5⟩
def zO {K K':CW} (hk:∀F L Y,K F L Y->K' F L Y):∀(t:QT) (b:Bool) (F:Fm) (L:Lm) (Y:AH),XT P K b t F L Y->XT P K' b t F L Y
 | .done,false,F,L,Y,h=>hk _ _ _ h
 | .done,true,F,L,Y,h=>trivial
 | .one q t,b,F,L,Y,h=>by
  have h:XQ P q (XT P K false t) F L Y:=by cases b<;>exact h
  have:XQ P q (XT P K' false t) F L Y:=U2 (fun F L Y h=>zO hk t false F L Y h) h;cases b<;>exact this
 | .alt q t r,b,F,L,Y,h=>by
  have h:XQ P q (XT P K false t) F L Y/\XT P K true r F L Y:=by cases b<;>exact h
  have:XQ P q (XT P K' false t) F L Y/\XT P K' true r F L Y:=⟨U2 (fun F L Y h=>zO hk t false F L Y h) h.1,zO hk r true F L Y h.2⟩;cases b<;>exact this
def Run.gH {t:QT} (hm:cx.P.follows .mixedOrders=true) (R:CW) (h1:XT cx.P R false t F L Y) (h2:∀F L Y,R F L Y->Run cx K k (Gw live F) (Fp live L) Y):Run cx K (.code (.IX t live)::k) F L Y:=
 Run.IX hm (zO (fun F L Y h=>h2 F L Y h) t false F L Y h1)
def Run.AcG {ops:List Q} (hm:cx.P.follows .mixedOrders=true) (R:CW) (h1:B6 cx.P R ops F L Y) (h2:∀F L Y,R F L Y->Run cx K k (Gw live F) (Fp live L) Y):Run cx K (.code (.reg ops live)::k) F L Y:=
 Run.reg hm (dZ ops (fun F L Y h=>h2 F L Y h) h1)
def Rel.AK8 (h:Rel base g Pr Y w0 w) (hσ:∀j cs',σ'.blk j=some cs'->∃cs,Y.blk j=some cs/\Ax cs'=true/\cs'.length=cs.length/\∀vs,VRs g cs vs->VRs g cs' vs) (ht:∀t,σ'.tok t=true->Y.tok t=true) (hgt:σ'.gt=Y.gt) (hbt:σ'.bt=Y.bt):Rel base g Pr σ' w0 w:=by
 have hn:∀j,σ'.blk j≠none->Y.blk j≠none:=fun j hj=>by
  cases hc:σ'.blk j with
  |none=>exact absurd hc hj
  |some c=>obtain ⟨c0,h2,_⟩:=hσ j c hc;rw [h2];simp
 refine ⟨h.im,fun j cs' hj=>?_,fun j k b hj hk=>h.inj j k b (hn j hj) (hn k hk),fun t htk=>?_,h.pr,h.bel,h.bs,h.fin,⟨fun b vs hv=>h.st.1 b vs (by rw [<- hgt];exact hv),fun i x Z=>h.st.2 i x (by rw [<- hbt];exact Z)⟩⟩
 . obtain ⟨cs,hc,hok,hln,hv⟩:=hσ j cs' hj;obtain ⟨b,hb,ho⟩:=h.shr j cs hc;obtain ⟨vs,ty,h1,h2,h3,h4⟩:=ho.row;exact ⟨b,hb,hok,⟨vs,ty,h1,by rw [hln];exact h2,h3,by rw [hln];exact hv _ h4⟩,ho.low,ho.im,ho.pr⟩
 . obtain ⟨v,e,size,n,xs,hm,hown,hrest⟩:=(h.tok t (ht t htk)).row;refine ⟨v,e,size,n,xs,hm,hown,fun b hvb=>?_⟩;obtain ⟨h1,h2,h3,h4⟩:=hrest b hvb;exact ⟨h1,h2,fun j hj=>h3 j (hn j hj),fun t' v' e' s' hne ht'=>h4 t' v' e' s' hne (ht t' ht')⟩
def Run.AK8 (hσ:∀j cs',σ'.blk j=some cs'->∃cs,Y.blk j=some cs/\(cs'=cs\/cs'=AV.CV cs)) (ht:∀t,σ'.tok t=true->Y.tok t=true) (h:Run cx K k F L σ') (hgt:σ'.gt=Y.gt:=by rfl) (hbt:σ'.bt=Y.bt:=by rfl):Run cx K k F L Y:=by
 intro items base g lam Pr a w0 w b cs0 hi0 hf hb hk;refine h items base g lam Pr a w0 w b cs0 hi0 ⟨hf.tm,hf.sz,hf.df,hf.loc,hf.inj,hf.npr,hf.rel.AK8 (fun j cs' hj=>?_) ht hgt hbt⟩ hb hk;obtain ⟨cs,hc,hp⟩:=hσ j cs' hj;obtain ⟨_,_,ho⟩:=hf.rel.shr j cs hc;refine ⟨cs,hc,?_,(by rcases hp with rfl|rfl<;>simp [VU]),fun vs hv=>?_⟩
 . rcases hp with rfl|rfl
   . exact ho.ok
   . have:=ho.ok;simp only [Ax,Aj] at this ⊢;intro v hv;obtain ⟨i,hi,rfl⟩:=Bv hv;have h1:=MV cs i;rw [Ay hi] at h1;cases hcs:cs[i]? with
     |none=>rw [hcs] at h1;cases h1
     |some c'=>rw [hcs] at h1;simp only [Ac,AM] at h1;rw [h1];exact dG (this c' (AD hcs))
 . rcases hp with rfl|rfl
   . exact hv
   . exact hv.plain
def Run.BE {c:C} (fr:α->Fm) (lo:α->Lm) (hp:α->AH) (inv:α->Prop) (m:α->Nat)
 (step:∀x,inv x->(∀y,inv y->m y < m x->Run cx K (.again c::k) (fr y) (lo y) (hp y))->Run cx K (.code c::.again c::k) (fr x) (lo x) (hp x)) (x:α) (Z:inv x):
 Run cx K (.again c::k) (fr x) (lo x) (hp x):=by
 have:∀(n:Nat) (x:α),m x<=n->inv x->Run cx K (.again c::k) (fr x) (lo x) (hp x):=by
  intro n
  induction n with
  |zero=>intro x hn Z;exact Run.again (step x Z (fun y _ hy=>by omega))
  |succ n ih=>intro x hn Z;exact Run.again (step x Z (fun y hy hlt=>ih y (by omega) hy))
 exact this _ x (AS _) Z
attribute [go_sem] AWX AV0 AbI AbH ASH AZC AZD ASG AZE AVY AOC AVZ AVX AbR AWP AWO exP xW AA4 AVD AU7 APY APR AM3 AMX AVL AVI AaX AaR AR5 AR0 AJT AKK AZ1 AAX AWQ AaA AWU AbS AZ9 AZ8 AWZ AW2 AZ4 AWT fdA AOM yS y6 Nv AT0 ANG fP APZ AM4 AVM AaY AR6 AGJ ADU ANT AIK AUB Option.map_none false_implies true_implies AaC AaB AW3 AW4 AZ7 ATL Ab0 AWY AZ0 AbY AbX AW0 AZ2 AW1 AZV AWR Ab2 AWW AZW AZY AZ3 AZZ AZ6 AbZ AZX AbQ AWS AZT Ab1 ATM AWV ATK AZU ATJ AZ5 AbW AbU Aa7 Aa8 AOB DR ASA AaD AaL AQ6 AM8 AM7 AH3 AIO AVT AIN AOA AcO AcN ixA ixR CO Int.natCast_nonneg AO4 dL AI1 rvA AT2 AGL ALU AGI ALT APW APV APT AGK APX APU ALV ACV AQ4 ADW AHW ADS AHV AM1 AM0 AMY ADV AM2 AMZ AHX AAQ MR ANV ARU ANS Dm AVK VP AVJ ANU AKL fY ARV AIF AYD AUD AYE AUA AYC AaV AaU AaS AUC AaW AaT AYF AP9 AOG ASK AOF AZG ANC ARC ANB AU4 AU5 AYY HU HV AN5 AIJ MU AR3 AR2 AR1 VT AR4 plain_fn AN6 AEF AV.CV Cut AFV AWN AWM AWL AED AG5 rdC ldA y5 AMV ALK xJ unA AL8 ARN stA wr Jz dvs chunk xvs Ax AVS AN9 AYZ ANI ARH ANF ARG AVB AVA AU8 ANH AVC AU9 ARI AH5 AJ Dr PQ AGY E6 Ac AT Option.pure_def AF AN BO Cq A0 Bw Aw RG C7 C0 Ez TG List.take_nil List.drop_nil AX Ag Bu XB BU Bk Bool.or_true N7 L1 Ep XC Iv Cy Mk N6 BEq.rfl beq_self_eq_true CF BF decide_true decide_false AS and_self and_true true_and ite_true ite_false A1 Bool.cond_true Bool.cond_false beq_true beq_false Bool.true_beq Bool.false_beq
def AC2:C->List (List Nat×PT)
 | .reg _ l=>[(l,.done)]
 | .IX _ l=>[(l,.done)]
 | .seq x y=>AC2 x++AC2 y
 | .cond _ t e=>AC2 t++AC2 e
 | .block _ c=>AC2 c
 | .loop c=>AC2 c
 | .scope c=>AC2 c
 |_=>[]
@[reducible] def Qo (d:Nat) (o:O):Q:=⟨some d,o,none⟩
@[reducible] def Qm (d s:Nat):Q:=⟨some d,.mv (.t s),none⟩
attribute [go_sem] Qo Qm
inductive Ty where
 |mk (kind num:Int) (args:List Ty)
variable {l:List Ty}
def Ty.kind:Ty->Int| .mk k _ _=>k
def Ty.num:Ty->Int| .mk _ n _=>n
def Ty.args:Ty->List Ty| .mk _ _ l=>l
mutual
def Ty.enc:Ty->List DV
 | .mk k n l=>[.int .i64 k,.int .i64 n,.sl (Ty.HE l)]
def Ty.HE:List Ty->List (List DV)
 |[]=>[]
 |t::l=>Ty.enc t::Ty.HE l
end
mutual
def Ty.size:Ty->Nat
 | .mk _ _ l=>1+Ty.AQ l
def Ty.AQ:List Ty->Nat
 |[]=>0
 |t::l=>Ty.size t+Ty.AQ l
end
def tyA (t:Ty):AV:= .agg (t.enc.map AV.d)
def N5 (l:List Ty):AV:= .d (.sl (Ty.HE l))
def D0:∀l:List Ty,(Ty.HE l).length=l.length
 |[]=>rfl
 |t::l=>by simp [Ty.HE,D0 l]
def ADB:∀(l:List Ty) (i:Nat),(Ty.HE l)[i]?=(l[i]?).map Ty.enc
 |[],i=>by simp [Ty.HE]
 |t::l,0=>by simp [Ty.HE]
 |t::l,i+1=>by simp [Ty.HE,ADB l i]
def RU {k n:Int} {a:List Ty} (h:l[i]?=some (.mk k n a)):(Ty.HE l)[i]?=some [.int .i64 k,.int .i64 n,.sl (Ty.HE a)]:=by
 rw [ADB,h];rfl
def A5 {l:List α} {x:α} (h:l[i]?=some x):l.take (i+1)=l.take i++[x]:=by
 rw [List.take_add_one,h];rfl
def Jw:∀(l:List Ty) (t:Ty),Ty.AQ (l++[t])=Ty.AQ l+t.size
 |[],t=>by simp [Ty.AQ]
 |u::l,t=>by simp only [AX,Ty.AQ,Jw l t];omega
def Bn:∀(l m:List Ty),Ty.AQ (l++m)=Ty.AQ l+Ty.AQ m
 |[],m=>by simp [Ty.AQ]
 |u::l,m=>by simp only [AX,Ty.AQ,Bn l m];omega
def AOK {t:Ty} (h:l[i]?=some t):Ty.AQ (l.take i)+t.size<=Ty.AQ l:=by
 have:l=l.take i++l.drop i:=(A7 i l).symm
 have hd:l.drop i=t::l.drop (i+1):=by
  have hlt:=(AE.1 h).1;rw [List.drop_eq_getElem_cons hlt];congr 1;exact (AE.1 h).2
 conv=>rhs;rw [this,Bn,hd]
 simp only [Ty.AQ];omega
def size_pos:∀t:Ty,1<=t.size
 | .mk _ _ _=>by simp [Ty.size]
def Bx:∀l:List Ty,l.length<=Ty.AQ l
 |[]=>by simp [Ty.AQ]
 |t::l=>by have:=Bx l;have:=size_pos t;simp only [A0,Ty.AQ];omega
abbrev Str:=List UInt8
inductive TE where
 |mk (kind:Int) (name:Str) (args:List TE)
structure CE where
 name:Str
 args:List TE
structure DE where
 name:Str
 vars:List Str
 cons:List CE
mutual
inductive Ex where
 |mk (op:Int) (name:Str) (num:Int) (names:List Str) (kids:List Ex) (alts:List Al)
inductive Al where
 |mk (con:Str) (vars:List Str) (body:Ex)
end
structure FE where
 name:Str
 params:List Str
 body:Ex
structure Pg where
 data:List DE
 Dz:List FE
def BX (s:Str):List DV:=[.str s]
def ssD (l:List Str):DV:= .sl (l.map BX)
mutual
def TE.enc:TE->List DV
 | .mk k n l=>[.int .i64 k,.str n,.sl (TE.HE l)]
def TE.HE:List TE->List (List DV)
 |[]=>[]
 |t::l=>TE.enc t::TE.HE l
end
def TE.Bf:∀l:List TE,TE.HE l=l.map TE.enc
 |[]=>rfl
 |t::l=>by simp [TE.HE,TE.Bf l]
def TE.A4 (k:Int) (n:Str) (l:List TE):(TE.mk k n l).enc=[.int .i64 k,.str n,.sl (l.map TE.enc)]:=by
 simp [TE.enc,TE.Bf]
mutual
def Ex.enc:Ex->List DV
 | .mk o n u ns ks aS=>[.int .i64 o,.str n,.int .i64 u,ssD ns,.sl (Ex.HE ks),.sl (Al.HE aS)]
def Ex.HE:List Ex->List (List DV)
 |[]=>[]
 |t::l=>Ex.enc t::Ex.HE l
def Al.enc:Al->List DV
 | .mk c vs b=>.str c::ssD vs::Ex.enc b
def Al.HE:List Al->List (List DV)
 |[]=>[]
 |t::l=>Al.enc t::Al.HE l
end
def Ex.Bf:∀l:List Ex,Ex.HE l=l.map Ex.enc
 |[]=>rfl
 |t::l=>by simp [Ex.HE,Ex.Bf l]
def Al.Bf:∀l:List Al,Al.HE l=l.map Al.enc
 |[]=>rfl
 |t::l=>by simp [Al.HE,Al.Bf l]
def Ex.A4 (o:Int) (n:Str) (u:Int) (ns:List Str) (ks:List Ex) (aS:List Al):(Ex.mk o n u ns ks aS).enc=[.int .i64 o,.str n,.int .i64 u,.sl (ns.map BX),.sl (ks.map Ex.enc),.sl (aS.map Al.enc)]:=by
 simp [Ex.enc,Ex.Bf,Al.Bf,ssD]
def Al.A4 (c:Str) (vs:List Str) (o:Int) (n:Str) (u:Int) (ns:List Str) (ks:List Ex) (aS:List Al):(Al.mk c vs (.mk o n u ns ks aS)).enc=[.str c,.sl (vs.map BX),.int .i64 o,.str n,.int .i64 u,.sl (ns.map BX),.sl (ks.map Ex.enc),.sl (aS.map Al.enc)]:=by
 simp [Al.enc,Ex.A4,ssD]
def CE.enc (c:CE):List DV:=[.str c.name,.sl (c.args.map TE.enc)]
def DE.enc (d:DE):List DV:=[.str d.name,.sl (d.vars.map BX),.sl (d.cons.map CE.enc)]
def FE.enc (f:FE):List DV:= .str f.name::.sl (f.params.map BX)::f.body.enc
def Pg.enc (p:Pg):List DV:=[.sl (p.data.map DE.enc),.sl (p.Dz.map FE.enc)]
def teA (t:TE):AV:= .agg (t.enc.map AV.d)
def exA (e:Ex):AV:= .agg (e.enc.map AV.d)
def alA (e:Al):AV:= .agg (e.enc.map AV.d)
def ceA (c:CE):AV:= .agg (c.enc.map AV.d)
def deA (c:DE):AV:= .agg (c.enc.map AV.d)
def feA (c:FE):AV:= .agg (c.enc.map AV.d)
def pgA (p:Pg):AV:= .agg (p.enc.map AV.d)
def Ty.Bf:∀l:List Ty,Ty.HE l=l.map Ty.enc
 |[]=>rfl
 |t::l=>by simp [Ty.HE,Ty.Bf l]
def BI {enc:α->List DV} {l:List α} {x:α} (h:l[i]?=some x):(l.map enc)[i]?=some (enc x):=by
 rw [Am,h];rfl
def By {l:List α} {x:α} (h:l[i]?=some x):l.drop i=x::l.drop (i+1):=by
 have hlt:=(AE.1 h).1;rw [List.drop_eq_getElem_cons hlt];congr 1;exact (AE.1 h).2
def Ai {l:List α} (h:i < l.length):∃x,l[i]?=some x:=⟨l[i],by simp [h]⟩
mutual
def TE.size:TE->Nat
 | .mk _ _ l=>1+TE.AQ l
def TE.AQ:List TE->Nat
 |[]=>0
 |t::l=>TE.size t+TE.AQ l
end
mutual
def Ex.size:Ex->Nat
 | .mk _ _ _ _ ks aS=>1+Ex.AQ ks+Al.AQ aS
def Ex.AQ:List Ex->Nat
 |[]=>0
 |t::l=>Ex.size t+Ex.AQ l
def Al.size:Al->Nat
 | .mk _ _ b=>Ex.size b
def Al.AQ:List Al->Nat
 |[]=>0
 |t::l=>Al.size t+Al.AQ l
end
def TE.size_pos:∀t:TE,1<=t.size
 | .mk _ _ _=>by simp [TE.size]
def Ex.size_pos:∀t:Ex,1<=t.size
 | .mk _ _ _ _ _ _=>by simp only [Ex.size];omega
def TE.Im {l:List TE} {t:TE} (h:t∈l):t.size<=TE.AQ l:=by
 induction l with
 |nil=>cases h
 |cons u l ih=>
  simp only [TE.AQ];cases h with
  |head=>omega
  |tail _ h=>have:=ih h;omega
def Ex.Im {l:List Ex} {t:Ex} (h:t∈l):t.size<=Ex.AQ l:=by
 induction l with
 |nil=>cases h
 |cons u l ih=>
  simp only [Ex.AQ];cases h with
  |head=>omega
  |tail _ h=>have:=ih h;omega
def Al.Im {l:List Al} {t:Al} (h:t∈l):t.size<=Al.AQ l:=by
 induction l with
 |nil=>cases h
 |cons u l ih=>
  simp only [Al.AQ];cases h with
  |head=>omega
  |tail _ h=>have:=ih h;omega
def TE.Bx:∀l:List TE,l.length<=TE.AQ l
 |[]=>by simp [TE.AQ]
 |t::l=>by have:=TE.Bx l;have:=TE.size_pos t;simp only [A0,TE.AQ];omega
def Ex.Bx:∀l:List Ex,l.length<=Ex.AQ l
 |[]=>by simp [Ex.AQ]
 |t::l=>by have:=Ex.Bx l;have:=Ex.size_pos t;simp only [A0,Ex.AQ];omega
def Al.Bx:∀l:List Al,l.length<=Al.AQ l
 |[]=>by simp [Al.AQ]
 | .mk _ _ b::l=>by have:=Al.Bx l;have:=Ex.size_pos b;simp only [A0,Al.AQ,Al.size];omega
def TE.Bn:∀(l m:List TE),TE.AQ (l++m)=TE.AQ l+TE.AQ m
 |[],m=>by simp [TE.AQ]
 |u::l,m=>by simp only [AX,TE.AQ,TE.Bn l m];omega
def Ex.Bn:∀(l m:List Ex),Ex.AQ (l++m)=Ex.AQ l+Ex.AQ m
 |[],m=>by simp [Ex.AQ]
 |u::l,m=>by simp only [AX,Ex.AQ,Ex.Bn l m];omega
def Al.Bn:∀(l m:List Al),Al.AQ (l++m)=Al.AQ l+Al.AQ m
 |[],m=>by simp [Al.AQ]
 |u::l,m=>by simp only [AX,Al.AQ,Al.Bn l m];omega
variable {P:Program} {K:CW} {F:Fm} {L:Lm} {Y:AH}
def AEG {s:Nat} (h:F s=v):put s v F=F:=by
 funext t;simp only [put];split
 . rename_i e;rw [<- h];first|(subst e;rfl)|(rw [e])
 . rfl
def Ae {d:Option Nat} {s:Nat} {b:Bool} {r:List Q} (hF:F s= .d (.bool b))
 (h1:b=true->B6 P K (⟨d,o,some (s,want)⟩::r) (put s (.d (.bool true)) F) L Y) (h2:b=false->B6 P K (⟨d,o,some (s,want)⟩::r) (put s (.d (.bool false)) F) L Y):
 B6 P K (⟨d,o,some (s,want)⟩::r) F L Y:=by
 cases b
 . have:=h2 rfl;rw [AEG hF] at this;exact this
 . have:=h1 rfl;rw [AEG hF] at this;exact this
def AI.det {d:Option Nat} {f:FuncId} {args:List AV} (h:AR P f args Y (fun v' σ'=>v'=v/\σ'=Y)) (hk:K (BL d v F) L Y) (hn:args.all AV.BS=true:=by rfl):AI P f args d K F L Y:=
 AI.mk hn h (fun v' σ' ⟨e1,e2⟩=>by subst e1;subst e2;exact hk)
def wrap_add {a b:Nat} (h:a+b<=9000000000000000000):IntKind.i64.wrap ((a:Int)+(b:Int))=((a+b:Nat):Int):=by
 rw [D4 (by omega) (by omega)];omega
def lN {a:Nat} (h:a+1<=9000000000000000000):IntKind.i64.wrap ((a:Int)+1)=((a+1:Nat):Int):=by
 rw [D4 (by omega) (by omega)];omega
def wsu (a:Nat) (h:a+1<=9223372036854775807:=by omega):IntKind.i64.wrap ((a:Int)+1)=((a+1:Nat):Int):=by rw [D4 (by omega) (by omega)];omega
def Ap (h:i < n):decide ((i:Int) < (n:Int))=true:=by simp [h]
def B7 (h:¬i < n):decide ((i:Int) < (n:Int))=false:=by simp;omega
def D6 {b:UInt8} (h:s[i]?=some b) (k:IntKind):tT (.d (.str s)) (.d (.int k (i:Int)))=some (.d (.int .u8 b.toNat)):=by
 simp [tT,h]
def ABT (h:n<=s.length):Yl (.d (.str s)) none (some (.d (.int .i64 (n:Int))))=some (.d (.str (s.take n))):=by
 simp [Yl,mV,Zu,h]
def ASX (h:n<=s.length):Yl (.d (.str s)) (some (.d (.int .i64 (n:Int)))) none=some (.d (.str (s.drop n))):=by
 simp [Yl,mV,Zu,h]
def ASW {m:Nat} (h:n<=m) (h2:m<=s.length):Yl (.d (.str s)) (some (.d (.int .i64 (n:Int)))) (some (.d (.int .i64 (m:Int))))=some (.d (.str ((s.take m).drop n))):=by
 simp [Yl,mV,Zu,h,h2]
def AXL {b c:UInt8} :Yl (.d (.str (b::c::s))) none (some (.d (.int .i64 2)))=some (.d (.str [b,c])):=by
 rw [show (2:Int)=((2:Nat):Int) from rfl,ABT (by simp)];rfl
def AXK {b:UInt8} :Yl (.d (.str (b::s))) none (some (.d (.int .i64 1)))=some (.d (.str [b])):=by
 rw [show (1:Int)=((1:Nat):Int) from rfl,ABT (by simp)];rfl
def AWE (b x:UInt8):((b.toNat:Int)==(x.toNat:Int))=(b==x):=by
 rw [Ak];simp only [beq_iff_eq,Int.natCast_inj,UInt8.toNat_inj]
def Run.JP {cx:Cx} {KK:AV->AH->Prop} {k:List CI} (ks:List Nat) (h:Run cx KK k (Gw ks F) (Fp ks L) Y):Run cx KK k F L Y:=
 fun items base g lam Pr a w0 w b cs hi hf hb hk=>h items base g lam Pr a w0 w b cs hi (hf.kept ks) hb hk
def ctl (bl:Bool):List CI->Option (List CI)
 | .code .skip::k=>some k
 | .code (.seq x y)::k=>some (.code x::.code y::k)
 | .code (.block i c)::k=>if bl then some (.code c::.blk i::k) else none
 | .code (.scope c)::k=>some (.code c::.scp::k)
 | .blk _::k=>some k
 | .scp::k=>some k
 | .code (.exit i)::k=>Hz i k
 |_=>none
def Run.ctB {cx:Cx} {KK:AV->AH->Prop} (bl:Bool) {k:List CI} (e:ctl bl k=some k') (h:Run cx KK k' F L Y):Run cx KK k F L Y:=by
 unfold ctl at e;split at e
 . cases e;exact Run.skip h
 . cases e;exact Run.seq h
 . split at e
   . cases e;exact Run.block h
   . cases e
 . cases e;exact Run.scope h
 . cases e;exact Run.blk h
 . cases e;exact Run.scp h
 . exact Run.exit e h
 . cases e
def Run.ct {cx:Cx} {KK:AV->AH->Prop} {k:List CI} (e:ctl true k=some k') (h:Run cx KK k' F L Y):Run cx KK k F L Y:=Run.ctB true e h
def Run.cb {cx:Cx} {KK:AV->AH->Prop} {k:List CI} (e:ctl false k=some k') (h:Run cx KK k' F L Y):Run cx KK k F L Y:=Run.ctB false e h
def Kp (R:CW) (l:List Nat):CW:=fun F L Y=>R (Gw l F) (Fp l L) Y
def Wp (cx:Cx) (K:AV->AH->Prop) (m:Nat):C->CW->List CI->CW
 | .skip,R,_=>R
 | .seq a b,R,k=>Wp cx K m a (Wp cx K m b R k) (.code b::k)
 | .block i c,R,k=>Wp cx K m c R (.blk i::k)
 | .scope c,R,k=>Wp cx K m c R (.scp::k)
 | .exit i,_,k=>fun F L Y=>match Hz i k with
  |some k'=>Run cx K k' F L Y
  |none=>False
 | .reg ops l,R,_=>B6 cx.P (Kp R l) ops
 | .cond x a b,_,k=>fun F L Y=>dY (xv F x) (Run cx K (.code a::k) F L Y) (Run cx K (.code b::k) F L Y)
 | .IX t l,R,_=>XT cx.P (Kp R l) false t
 | .loop c,_,k=>Run cx K (.code (.loop c)::k)
 | .ret,_,k=>fun F L Y=>match m with
  |0=>Run cx K (.code .ret::k) F L Y
  |1=>zN ((dL F L Y cx.rs).map AV.plain) K Y
  |_=>zN (dL F L Y cx.rs) K Y
 | .bad,_,k=>Run cx K (.code .bad::k)
def iC {cx:Cx} {K:AV->AH->Prop} {m:Nat} [hg:Good cx]:∀(c:C) (R:CW) (k:List CI) (F:Fm) (L:Lm) (Y:AH),(∀F L Y,R F L Y->Run cx K k F L Y)->Wp cx K m c R k F L Y->Run cx K (.code c::k) F L Y
 | .skip,R,k,F,L,Y,hR,h=>Run.skip (hR F L Y h)
 | .seq a b,R,k,F,L,Y,hR,h=>Run.seq (iC a (Wp cx K m b R k) (.code b::k) F L Y (fun F L Y h=>iC b R k F L Y hR h) h)
 | .block i c,R,k,F,L,Y,hR,h=>Run.block (iC c R (.blk i::k) F L Y (fun F L Y h=>Run.blk (hR F L Y h)) h)
 | .scope c,R,k,F,L,Y,hR,h=>Run.scope (iC c R (.scp::k) F L Y (fun F L Y h=>Run.scp (hR F L Y h)) h)
 | .exit i,R,k,F,L,Y,hR,h=>by
  simp only [Wp] at h;cases he:Hz i k with
  |none=>rw [he] at h;exact h.elim
  |some k'=>rw [he] at h;exact Run.exit he h
 | .reg ops l,R,k,F,L,Y,hR,h=>Run.AcG hg.gC (Kp R l) h fun F L Y h=>hR _ _ _ h
 | .cond x a b,R,k,F,L,Y,hR,h=>Run.AW7 h
 | .IX t l,R,k,F,L,Y,hR,h=>Run.gH hg.gC (Kp R l) h fun F L Y h=>hR _ _ _ h
 | .loop c,R,k,F,L,Y,hR,h=>h
 | .ret,R,k,F,L,Y,hR,h=>by
  match m,h with
  |0,h=>exact h
  |1,h=>exact Run.Bg hg (AH.le_refl _) h
  |_+2,h=>exact Run.AV3 hg (AH.le_refl _) h
 | .bad,R,k,F,L,Y,hR,h=>h
def hdC (m:Nat):List CI->Option (C×List CI)
 | .blk _::k=>hdC m k
 | .scp::k=>hdC m k
 | .code .skip::k=>some (.skip,k)
 | .code (.seq a b)::k=>some (.seq a b,k)
 | .code (.block i c)::k=>some (.block i c,k)
 | .code (.scope c)::k=>some (.scope c,k)
 | .code (.exit i)::k=>some (.exit i,k)
 | .code (.reg o l)::k=>some (.reg o l,k)
 | .code (.IX o l)::k=>some (.IX o l,k)
 | .code (.cond x a b)::k=>some (.cond x a b,k)
 | .code .ret::k=>match m with
  |0=>none
  |_=>some (.ret,k)
 |_=>none
def wM {cx:Cx} {K:AV->AH->Prop} [Good cx] (m:Nat):∀ {k:List CI} {c:C} {k':List CI},hdC m k=some (c,k')->Wp cx K m c (Run cx K k') k' F L Y->Run cx K k F L Y
 | .blk _::k,c,k',e,h=>Run.blk (wM m (k:=k) e h)
 | .scp::k,c,k',e,h=>Run.scp (wM m (k:=k) e h)
 | .code d::k,c,k',e,h=>by
  cases d
  case ret=>cases m<;>cases e<;>exact iC _ _ _ F L Y (fun _ _ _ h=>h) h
  all_goals cases e<;>exact iC _ _ _ F L Y (fun _ _ _ h=>h) h
 | .again _::k,c,k',e,h=>by cases e
 |[],c,k',e,h=>by cases e
def wQ {cx:Cx} {K:AV->AH->Prop} [Good cx] {k:List CI} {c:C} (h:Wp cx K 0 c (Run cx K k') k' F L Y) (e:hdC 0 k=some (c,k'):=by rfl):Run cx K k F L Y:=wM 0 e h
def wP {cx:Cx} {K:AV->AH->Prop} [Good cx] {k:List CI} {c:C} (h:Wp cx K 1 c (Run cx K k') k' F L Y) (e:hdC 1 k=some (c,k'):=by rfl):Run cx K k F L Y:=wM 1 e h
def wR {cx:Cx} {K:AV->AH->Prop} [Good cx] {k:List CI} {c:C} (h:Wp cx K 2 c (Run cx K k') k' F L Y) (e:hdC 2 k=some (c,k'):=by rfl):Run cx K k F L Y:=wM 2 e h
section eqs
variable {cx:Cx} {K:AV->AH->Prop} {R:CW} {k:List CI} {a b c:C} {m:Nat}
def AcM {l:List Nat}:Kp R l F L Y=R (Gw l F) (Fp l L) Y:=(rfl)
def AZQ:Wp cx K m .skip R k F L Y=R F L Y:=(rfl)
def AbO:Wp cx K m (.seq a b) R k F L Y=Wp cx K m a (Wp cx K m b R k) (.code b::k) F L Y:=(rfl)
def AWH :Wp cx K m (.block i c) R k F L Y=Wp cx K m c R (.blk i::k) F L Y:=(rfl)
def AWI:Wp cx K m (.scope c) R k F L Y=Wp cx K m c R (.scp::k) F L Y:=(rfl)
def AbM {ops:List Q} {l:List Nat}:Wp cx K m (.reg ops l) R k F L Y=B6 cx.P (Kp R l) ops F L Y:=(rfl)
def AZN {t:QT} {l:List Nat}:Wp cx K m (.IX t l) R k F L Y=XT cx.P (Kp R l) false t F L Y:=(rfl)
def AZK {x:X}:Wp cx K m (.cond x a b) R k F L Y=dY (xv F x) (Run cx K (.code a::k) F L Y) (Run cx K (.code b::k) F L Y):=(rfl)
def AZM:Wp cx K m (.loop c) R k F L Y=Run cx K (.code (.loop c)::k) F L Y:=(rfl)
def AbN:Wp cx K 0 .ret R k F L Y=Run cx K (.code .ret::k) F L Y:=(rfl)
def AZO:Wp cx K 1 .ret R k F L Y=zN ((dL F L Y cx.rs).map AV.plain) K Y:=(rfl)
def AZP:Wp cx K 2 .ret R k F L Y=zN (dL F L Y cx.rs) K Y:=(rfl)
def AZL :Wp cx K m (.exit i) R k F L Y=match Hz i k with
 |some k'=>Run cx K k' F L Y
 |none=>False:=(rfl)
def AQE :Hz i (.code c::k)=Hz i k:=(rfl)
def AUJ :Hz i (.scp::k)=Hz i k:=(rfl)
def AL4 :Hz i (.again c::k)=Hz i k:=(rfl)
def AQF :Hz i (.blk i::k)=some k:=by rw [Hz,if_pos rfl]
def AUI :Hz i (.blk j::k)=if j=i then some k else Hz i k:=by rw [Hz]
end eqs
attribute [go_sem] AcM AZQ AbO AWH AWI AbM AZN AZK AZM AbN AZO AZP AZL AQE AUJ AL4 AQF AUI
attribute [go_sem] HN Nat.reduceBEq Nat.reduceAdd Nat.reduceLeDiff reduceIte reduceCtorEq
attribute [go_sem] xS N5 tyA Ty.enc Ty.HE eq_self Br Bool.not_eq_false'
def pO (l:List Nat) (t:PT):PT:=l.foldr .one t
def pL (l:List Nat) (t:PT):PT:=l.foldr .lay t
def qT (o:List Q):PT->QT
 | .done=>.done
 | .one i t| .lay i t=>.one (o.getD i ⟨none,.mv (.t 0),none⟩) (qT o t)
 | .alt i t r=>.alt (o.getD i ⟨none,.mv (.t 0),none⟩) (qT o t) (qT o r)
def AcH (q:List Q) (p:PT):C:=match p with
 | .done=>.reg q []
 |p=>match lin (qT q p) with
  |some q=>.reg q []
  |none=>.IX (qT q p) []
def rgs:Code->Nat
 | .region _ _ _=>1
 | .seq x y=>rgs x+rgs y
 | .cond _ x y=>rgs x+rgs y
 | .block _ c=>rgs c
 | .loop c=>rgs c
 | .scope c=>rgs c
 |_=>0
def cG (ops:Array Oper) (o:Oper) (c:Option O):Option Q:=c.map fun c=>⟨o.dst,c,o.guard.bind fun g=>((ops[g.1]?).bind (·.dst)).map (·,g.2)⟩
def cQ (x:Cx) (ops:Array Oper) (o:Oper):Option Q:=match o.op with
 | .binOp op t a b _=>match x.P.underlying t with
  |some (.struct fs)=>cG ops o (y7 op fs.size a b)
  |_=>xR x.P x.N x.esc ops o
 | .lookup _ a b false=>cG ops o ((xo a).bind fun p=>(xo b).map fun q=>.ex .AA3 [p,q])
 | .mapUpdate t a b c=>cG ops o (match x.P.underlying t with
  |some (.map k _)=>(xo a).bind fun p=>(xo b).bind fun q=>(xo c).map fun r=>.fT (!rX x.P k) p q r
  |_=>none)
 |_=>xR x.P x.N x.esc ops o
def cU (x:Cx) (ps:List (Nat×PT)):Code->Nat->C
 | .region _ ops _,n=>match ops.toList.mapM (cQ x ops) with
  |some q=>AcH q ((ps.lookup n).getD .done)
  |none=>.bad
 | .seq a b,n=>.seq (cU x ps a n) (cU x ps b (n+rgs a))
 | .cond c t e,n=>.cond ((xo c).getD (.t 0)) (cU x ps t n) (cU x ps e (n+rgs t))
 | .block id c,n=>.block id (cU x ps c n)
 | .loop c,n=>.loop (cU x ps c n)
 | .exit id,_=>.exit id
 | .ret,_=>.ret
 | .scope c,n=>.scope (cU x ps c n)
 |_,_=>.skip
def bit (n:Nat):Nat:=1 <<< n
def bits (l:List Nat):Nat:=l.foldl (fun m n=>m|||bit n) 0
def AXJ (n:Nat) (m:Nat):List Nat:=(Av n).filter fun i=>m.testBit i
def AY9:QT->List Q
 | .done=>[]
 | .one q t=>q::AY9 t
 | .alt q t _=>q::AY9 t
def AKI:List Q->Nat->Nat
 |[],m=>m
 |q::l,m=>bits q.looks|||(match q.dst with|some d=>(AKI l m|||bit d) ^^^ bit d|none=>AKI l m)
def Aa6 (f:Nat->Nat):Nat->Nat->Nat
 |0,m=>m
 |n+1,m=>if f m|||m=m then m else Aa6 f n (f m|||m)
def lv (N r:Nat):C->List (Nat×Nat)->Nat->C×Nat
 | .reg q _,_,m=>(.reg q (AXJ N m),AKI q m)
 | .IX t _,_,m=>(.IX t (AXJ N m),AKI (AY9 t) m)
 | .seq a b,e,m=>match lv N r b e m with
  |(b',p)=>match lv N r a e p with
   |(a',q)=>(.seq a' b',q)
 | .cond x a b,e,m=>match lv N r a e m,lv N r b e m with
  |(a',p),(b',q)=>(.cond x a' b',bits (TD x)|||(p|||q))
 | .block i c,e,m=>match lv N r c ((i,m)::e) m with
  |(c',p)=>(.block i c',p)
 | .scope c,e,m=>match lv N r c e m with
  |(c',p)=>(.scope c',p)
 | .loop c,e,_=>match Aa6 (fun m=>(lv N r c e m).2) 8 0 with
  |m=>(.loop (lv N r c e m).1,m)
 | .exit i,e,_=>(.exit i,(e.lookup i).getD 0)
 | .ret,_,_=>(.ret,r)
 | .skip,_,m=>(.skip,m)
 | .bad,_,_=>(.bad,0)
def e9 (ls:List C):C->Nat->C×Nat
 | .seq a b,n=>match e9 ls a n with
  |(a',n)=>match e9 ls b n with
   |(b',n)=>(.seq a' b',n)
 | .cond x a b,n=>match e9 ls a n with
  |(a',n)=>match e9 ls b n with
   |(b',n)=>(.cond x a' b',n)
 | .block i c,n=>match e9 ls c n with
  |(c',n)=>(.block i c',n)
 | .scope c,n=>match e9 ls c n with
  |(c',n)=>(.scope c',n)
 | .loop c,n=>match e9 ls c n with
  |(_,n)=>(.loop (ls.getD n .skip),n+1)
 |c,n=>(c,n)
def ACK (ls:List C):C->Nat->List C×Nat
 | .seq a b,n=>match ACK ls a n with
  |(a',n)=>match ACK ls b n with
   |(b',n)=>(a'++b',n)
 | .cond _ a b,n=>match ACK ls a n with
  |(a',n)=>match ACK ls b n with
   |(b',n)=>(a'++b',n)
 | .block _ c,n=>ACK ls c n
 | .scope c,n=>ACK ls c n
 | .loop c,n=>match ACK ls c n with
  |(l,m)=>(l++[(e9 ls c n).1],m+1)
 |_,n=>([],n)
def rvb:List RV->Nat
 |[]=>0
 | .t n::l=>bit n|||rvb l
 | .c n _::l=>bit n|||rvb l
def gen (N r:Nat) (c:C) (ls:List C):C×List C:=match lv N r c [] 0 with
 |(c,_)=>((e9 ls c 0).1,(ACK ls c 0).1)
def u8c (n:Nat) (h:n < 2 ^ 8):UInt8.ofBitVec (BitVec.ofFin ⟨n,h⟩)=UInt8.ofNat n:=by
 apply UInt8.toNat.inj;simp [UInt8.toNat_ofNat'];omega
def BG {α:Type} (x:Cx) (ps:List (Nat×PT)) (f:C×Nat×Nat->α)
 (y: {c:C×Nat×Nat // (cU x ps (x.fn.body.getD .skip) 0,x.N,rvb x.rs)=c}:=by exact ⟨_,by conv=> { lhs;reduce;try simp only [Int.reduceOfNat,Int.reduceNegSucc,u8c,UInt8.reduceOfNat]}⟩)
 (z: {a:α // f y.1=a}:=by exact ⟨_,by conv=> { lhs;(try (ext _;(try (ext _;(try (ext _;(try (ext _;(try (ext _;(try (ext _;(try (ext _;(try (ext _;(try (ext _;(try (ext _;(try (ext _;(try (ext _;(try (ext _;(try (ext _;skip))))))))))))))))))))))))))));cbv}⟩):α:=z.1
def G (c:C×Nat×Nat) (ls:List C):C×List C:=gen c.2.1 c.2.2 c.1 ls
def lpC (n:Nat) (p:C×List C):C:=p.2.getD n .skip
def wp (l:List (List Nat×PT)) (s:List (Nat×PT)):List (List Nat×PT):=s.foldl (fun l x=>l.modify x.1 fun y=>(y.1,x.2)) l
def Inn (cx:Cx) (c:C) (n:Nat):Prop:=∀ {args:List AV} {Y:AH} {K:AV->AH->Prop},args.length<=n->Run cx K [.code c] (XP args) E Y->AR cx.P cx.f args Y K
def inn {cx:Cx} {c:C} (t:List (Nat×PT)) (hg:Good cx) (hn:cx.fn.ntmps=n) (hc:(cx.fn.body.bind fun k=>Hm cx.P cx.N cx.esc cx.pf k (wp (AC2 c) t))=some (c,[]):=by kernel_rfl) (hN:cx.N=n:=by rfl):Inn cx c n:=by
 intro args Y K hl h;cases hb:cx.fn.body with
 |none=>rw [hb] at hc;cases hc
 |some code=>rw [hb] at hc;exact ALE hg hb (hn.trans hN.symm) (hN ▸ hl) (Ms cx _ _ _ _ hc) h
def Run.qP {cx:Cx} {KK:AV->AH->Prop} {k:List CI} {F:Fm} {L:Lm} {Y:AH} (hg:Good cx) (h:zN ((dL F L Y cx.rs).map AV.plain) KK Y):Run cx KK (.code .ret::k) F L Y:=Run.Bg hg (AH.le_refl _) h
def Run.qR {cx:Cx} {KK:AV->AH->Prop} {k:List CI} {F:Fm} {L:Lm} {Y:AH} (hg:Good cx) (h:zN (dL F L Y cx.rs) KK Y):Run cx KK (.code .ret::k) F L Y:=Run.AV3 hg (AH.le_refl _) h
def ctQ {cx:Cx} {KK:AV->AH->Prop} {k:List CI} {F:Fm} {L:Lm} {Y:AH} (e:ctl true k=some k') (h:Run cx KK k' F L Y):Run cx KK k F L Y:=Run.ct e h
def rgQ {cx:Cx} {KK:AV->AH->Prop} {k:List CI} {F:Fm} {L:Lm} {Y:AH} {ops:List Q} (hm:cx.P.follows .mixedOrders=true) (h:B6 cx.P (AFV cx KK k live) ops F L Y):Run cx KK (.code (.reg ops live)::k) F L Y:=Run.reg hm h
def cdQ {cx:Cx} {KK:AV->AH->Prop} {k:List CI} {F:Fm} {L:Lm} {Y:AH} {x:X} {t e:C} (h:dY (xv F x) (Run cx KK (.code t::k) F L Y) (Run cx KK (.code e::k) F L Y)):Run cx KK (.code (.cond x t e)::k) F L Y:=Run.AW7 h
def BT {Y:AH} :(Y.AL i cs).blk i=some cs:=by rw [AJ,if_pos rfl]
def CC.w4 {Y σ':AH} {e s:Nat} {rows:List (List DV)} (h:CC Y e s rows v σ'):v.BS=true/\(∀k,v.CL k=false)/\v.cells=[v]/\v.B1=true:=⟨h.BS,h.CL,h.cells,h.cell⟩
open Go.Proofs
set_option maxRecDepth 100000
set_option maxHeartbeats 40000000
noncomputable section
def mixed:Tzp.follows .mixedOrders=true:=by kernel_rfl
def mxQ:Tzp.follows .mixedOrders=true:=mixed
noncomputable def QH:Cx:=⟨Tzp,41,Tryz.f41,129,[7,300011,300016,300022,300028,300033,300038,300044,300050,300056,300062,300071,300081,300091,300103,300109,300114,300119,300125],[],[.t 2]⟩
instance P4:Good QH:=⟨Tryz.func41,by kernel_rfl,mixed⟩
def AEU:QH.rs=[.t 2]:=rfl
noncomputable def Pk:=BG QH [] fun c a b d e=>G c [a,b,d,e]
def M4:C:=lpC 0 (Pk .skip .skip .skip .skip)
def Rn:C:=lpC 1 (Pk M4 .skip .skip .skip)
def aM:C:=lpC 2 (Pk M4 Rn .skip .skip)
def aN:C:=lpC 3 (Pk M4 Rn aM .skip)
def AGC:C:=(Pk M4 Rn aM aN).1
def AHL:Inn QH AGC 129:=inn [] P4 Tryz.ntmps41
noncomputable def LU:Cx:=⟨Tzp,88,Tryz.f88,62,[30,300009,300014,300019,300025,300032,300039,300044,300050,300057],[],[.t 2]⟩
instance Gq:Good LU:=⟨Tryz.func88,by kernel_rfl,mixed⟩
def oQ:LU.rs=[.t 2]:=rfl
noncomputable def Pm:=BG LU [] fun c a b=>G c [a,b]
def RN:C:=lpC 0 (Pm .skip .skip)
def eL:C:=lpC 1 (Pm RN .skip)
def qD:C:=(Pm RN eL).1
def rO:Inn LU qD 62:=inn [] Gq Tryz.ntmps88
noncomputable def Rh:Cx:=⟨Tzp,82,Tryz.f82,37,[],[],[.t 4]⟩
instance ADI:Good Rh:=⟨Tryz.func82,by kernel_rfl,mixed⟩
def ABI:Rh.rs=[.t 4]:=rfl
noncomputable def ADX:=BG Rh [] (G · [])
def ACP:C:=(ADX).1
def ADN:Inn Rh ACP 37:=inn [] ADI Tryz.ntmps82
noncomputable def Vk:Cx:=⟨Tzp,83,Tryz.f83,32,[],[],[.t 4]⟩
instance AHD:Good Vk:=⟨Tryz.func83,by kernel_rfl,mixed⟩
def AEV:Vk.rs=[.t 4]:=rfl
noncomputable def r3:=BG Vk [] fun c a=>G c [a]
def u0:C:=lpC 0 (r3 .skip)
def AGD:C:=(r3 u0).1
def AHM:Inn Vk AGD 32:=inn [] AHD Tryz.ntmps83
noncomputable def IT:Cx:=⟨Tzp,84,Tryz.f84,94,[300010,300013,300019,300028,300037,300047,300061,300070,300086],[],[.t 4]⟩
instance rD:Good IT:=⟨Tryz.func84,by kernel_rfl,mixed⟩
def oO:IT.rs=[.t 4]:=rfl
noncomputable def YR:=BG IT [] fun c a=>G c [a]
def RM:C:=lpC 0 (YR .skip)
def qA:C:=(YR RM).1
def Xw:Inn IT qA 94:=inn [] rD Tryz.ntmps84
def Ym:List (Nat×PT):=[(53,(pO [0,1,3,4,2,5,6,7] .done))]
noncomputable def IS:Cx:=⟨Tzp,85,Tryz.f85,250,[300030,300036,300040,300046,300050,300056,300065,300073,300077,300083,300088,300098,300106,300113,300117,300125,300129,300135,300138,300143,300147,300156,300164,300173,300183,300190,300197,300204,300210,300221,300227,300232,300237,300243],[],[.t 6]⟩
instance Xm:Good IS:=⟨Tryz.func85,by kernel_rfl,mixed⟩
def oN:IS.rs=[.t 6]:=rfl
noncomputable def Pl:=BG IS Ym fun c a b=>G c [a,b]
def Kg:C:=lpC 0 (Pl .skip .skip)
def RL:C:=lpC 1 (Pl Kg .skip)
def p9:C:=(Pl Kg RL).1
def Xv:Inn IS p9 250:=inn Ym Xm Tryz.ntmps85
noncomputable def H0:Cx:=⟨Tzp,123,Tryz.f123,32,[300004,300009,300015,300020,300025,300030],[],[.t 2]⟩
instance P9:Good H0:=⟨Tryz.func123,by kernel_rfl,mixed⟩
def aA:H0.rs=[.t 2]:=rfl
noncomputable def c9:=BG H0 [] (G · [])
def bT:C:=(c9).1
def cS:Inn H0 bT 32:=inn [] P9 Tryz.ntmps123
noncomputable def Jc:Cx:=⟨Tzp,124,Tryz.f124,5,[],[],[.t 2]⟩
instance nN:Good Jc:=⟨Tryz.func124,by kernel_rfl,mixed⟩
def lC:Jc.rs=[.t 2]:=rfl
noncomputable def oB:=BG Jc [] (G · [])
def nH:C:=(oB).1
def nV:Inn Jc nH 5:=inn [] nN Tryz.ntmps124
noncomputable def Gf:Cx:=⟨Tzp,125,Tryz.f125,9,[3],[],[.t 4]⟩
instance ON:Good Gf:=⟨Tryz.func125,by kernel_rfl,mixed⟩
def Yd:Gf.rs=[.t 4]:=rfl
noncomputable def Zr:=BG Gf [] (G · [])
def Z7:C:=(Zr).1
def Zl:Inn Gf Z7 9:=inn [] ON Tryz.ntmps125
noncomputable def Fe:Cx:=⟨Tzp,126,Tryz.f126,61,[300028,300033,300040,300047,300055],[],[.t 6]⟩
instance W3:Good Fe:=⟨Tryz.func126,by kernel_rfl,mixed⟩
def V2:Fe.rs=[.t 6]:=rfl
noncomputable def He:=BG Fe [] fun c a b=>G c [a,b]
def Iz:C:=lpC 0 (He .skip .skip)
def Rx:C:=lpC 1 (He Iz .skip)
def WT:C:=(He Iz Rx).1
def Lh:Inn Fe WT 61:=inn [] W3 Tryz.ntmps126
noncomputable def IQ:Cx:=⟨Tzp,121,Tryz.f121,200,[],[],[.t 2,.t 3,.t 4]⟩
instance Jl:Good IQ:=⟨Tryz.func121,by kernel_rfl,mixed⟩
def AEP:IQ.rs=[.t 2,.t 3,.t 4]:=rfl
noncomputable def Pj:=BG IQ [] fun c a b d e=>G c [a,b,d,e]
def M2:C:=lpC 0 (Pj .skip .skip .skip .skip)
def M3:C:=lpC 1 (Pj M2 .skip .skip .skip)
def Rm:C:=lpC 2 (Pj M2 M3 .skip .skip)
def uY:C:=lpC 3 (Pj M2 M3 Rm .skip)
def AF7:C:=(Pj M2 M3 Rm uY).1
def AHG:Inn IQ AF7 200:=inn [] Jl Tryz.ntmps121
noncomputable def LO:Cx:=⟨Tzp,122,Tryz.f122,17,[],[],[.t 2]⟩
instance rC:Good LO:=⟨Tryz.func122,by kernel_rfl,mixed⟩
def oM:LO.rs=[.t 2]:=rfl
noncomputable def r4:=BG LO [] (G · [])
def p8:C:=(r4).1
def rL:Inn LO p8 17:=inn [] rC Tryz.ntmps122
noncomputable def I6:Cx:=⟨Tzp,177,Tryz.f177,5,[],[],[.t 2]⟩
instance jR:Good I6:=⟨Tryz.func177,by kernel_rfl,mixed⟩
def gQ:I6.rs=[.t 2]:=rfl
noncomputable def kH:=BG I6 [] (G · [])
def iQ:C:=(kH).1
def jZ:Inn I6 iQ 5:=inn [] jR Tryz.ntmps177
noncomputable def EY:Cx:=⟨Tzp,178,Tryz.f178,9,[3],[],[.t 4]⟩
instance JG:Good EY:=⟨Tryz.func178,by kernel_rfl,mixed⟩
def Qs:EY.rs=[.t 4]:=rfl
noncomputable def Sg:=BG EY [] (G · [])
def Rw:C:=(Sg).1
def S3:Inn EY Rw 9:=inn [] JG Tryz.ntmps178
noncomputable def GL:Cx:=⟨Tzp,179,Tryz.f179,17,[300004,300008,300014],[],[.t 2]⟩
instance NA:Good GL:=⟨Tryz.func179,by kernel_rfl,mixed⟩
def Ws:GL.rs=[.t 2]:=rfl
noncomputable def YU:=BG GL [] (G · [])
def X3:C:=(YU).1
def YD:Inn GL X3 17:=inn [] NA Tryz.ntmps179
noncomputable def EG:Cx:=⟨Tzp,180,Tryz.f180,9,[3],[],[.t 4]⟩
instance I8:Good EG:=⟨Tryz.func180,by kernel_rfl,mixed⟩
def Py:EG.rs=[.t 4]:=rfl
noncomputable def Qi:=BG EG [] (G · [])
def QV:C:=(Qi).1
def Qc:Inn EG QV 9:=inn [] I8 Tryz.ntmps180
noncomputable def FI:Cx:=⟨Tzp,181,Tryz.f181,5,[300003],[],[.t 2]⟩
instance Uu:Good FI:=⟨Tryz.func181,by kernel_rfl,mixed⟩
def UH:FI.rs=[.t 2]:=rfl
noncomputable def VJ:=BG FI [] (G · [])
def Ud:C:=(VJ).1
def VB:Inn FI Ud 5:=inn [] Uu Tryz.ntmps181
noncomputable def H4:Cx:=⟨Tzp,182,Tryz.f182,65,[3,300010,300018,300024,300035,300039,300044,300048,300054,300061],[],[.t 4]⟩
instance Jo:Good H4:=⟨Tryz.func182,by kernel_rfl,mixed⟩
def aD:H4.rs=[.t 4]:=rfl
noncomputable def dC:=BG H4 [] (G · [])
def bW:C:=(dC).1
def Pe:Inn H4 bW 65:=inn [] Jo Tryz.ntmps182
noncomputable def I5:Cx:=⟨Tzp,183,Tryz.f183,37,[],[],[.t 4]⟩
instance jQ:Good I5:=⟨Tryz.func183,by kernel_rfl,mixed⟩
def gP:I5.rs=[.t 4]:=rfl
noncomputable def kF:=BG I5 [] (G · [])
def iP:C:=(kF).1
def jY:Inn I5 iP 37:=inn [] jQ Tryz.ntmps183
noncomputable def DU:Cx:=⟨Tzp,184,Tryz.f184,9,[],[],[.t 4]⟩
instance Nn:Good DU:=⟨Tryz.func184,by kernel_rfl,mixed⟩
def NX:DU.rs=[.t 4]:=rfl
noncomputable def Nw:=BG DU [] (G · [])
def Nc:C:=(Nw).1
def Nq:Inn DU Nc 9:=inn [] Nn Tryz.ntmps184
noncomputable def Fc:Cx:=⟨Tzp,185,Tryz.f185,8,[],[],[.t 3]⟩
instance W2:Good Fc:=⟨Tryz.func185,by kernel_rfl,mixed⟩
def V1:Fc.rs=[.t 3]:=rfl
noncomputable def Wi:=BG Fc [] (G · [])
def WS:C:=(Wi).1
def Wb:Inn Fc WS 8:=inn [] W2 Tryz.ntmps185
noncomputable def H3:Cx:=⟨Tzp,186,Tryz.f186,194,[300008,300010,300012,300022,300034,300044,300048,300059,300063,300073,300079,300085,300089,300097,300107,300113,300117,300127,300133,300137,300149,300159,300163,300171,300183,300191],[],[.t 2]⟩
instance cL:Good H3:=⟨Tryz.func186,by kernel_rfl,mixed⟩
def aC:H3.rs=[.t 2]:=rfl
noncomputable def dB:=BG H3 [] (G · [])
def bV:C:=(dB).1
def cV:Inn H3 bV 194:=inn [] cL Tryz.ntmps186
noncomputable def Vi:Cx:=⟨Tzp,171,Tryz.f171,9,[],[],[.t 2]⟩
instance AHB:Good Vi:=⟨Tryz.func171,by kernel_rfl,mixed⟩
def AES:Vi.rs=[.t 2]:=rfl
noncomputable def AH0:=BG Vi [] (G · [])
def AGA:C:=(AH0).1
def AHJ:Inn Vi AGA 9:=inn [] AHB Tryz.ntmps171
noncomputable def Vj:Cx:=⟨Tzp,172,Tryz.f172,9,[],[],[.t 2]⟩
instance AHC:Good Vj:=⟨Tryz.func172,by kernel_rfl,mixed⟩
def AET:Vj.rs=[.t 2]:=rfl
noncomputable def AH1:=BG Vj [] (G · [])
def AGB:C:=(AH1).1
def AHK:Inn Vj AGB 9:=inn [] AHC Tryz.ntmps172
noncomputable def Vh:Cx:=⟨Tzp,173,Tryz.f173,9,[],[],[.t 2]⟩
instance AHA:Good Vh:=⟨Tryz.func173,by kernel_rfl,mixed⟩
def AER:Vh.rs=[.t 2]:=rfl
noncomputable def AHZ:=BG Vh [] (G · [])
def AF9:C:=(AHZ).1
def AHI:Inn Vh AF9 9:=inn [] AHA Tryz.ntmps173
noncomputable def PD:Cx:=⟨Tzp,174,Tryz.f174,18,[],[],[.t 2]⟩
instance AAG:Good PD:=⟨Tryz.func174,by kernel_rfl,mixed⟩
def wU:PD.rs=[.t 2]:=rfl
noncomputable def fL:=BG PD [] fun c a=>G c [a]
def mY:C:=lpC 0 (fL .skip)
def zT:C:=(fL mY).1
def AAL:Inn PD zT 18:=inn [] AAG Tryz.ntmps174
noncomputable def Vg:Cx:=⟨Tzp,175,Tryz.f175,23,[],[],[.t 2,.t 3]⟩
instance AG9:Good Vg:=⟨Tryz.func175,by kernel_rfl,mixed⟩
def AEQ:Vg.rs=[.t 2,.t 3]:=rfl
noncomputable def rZ:=BG Vg [] fun c a=>G c [a]
def uZ:C:=lpC 0 (rZ .skip)
def AF8:C:=(rZ uZ).1
def AHH:Inn Vg AF8 23:=inn [] AG9 Tryz.ntmps175
noncomputable def UU:Cx:=⟨Tzp,176,Tryz.f176,35,[],[],[.t 2]⟩
instance AMI:Good UU:=⟨Tryz.func176,by kernel_rfl,mixed⟩
def AIX:UU.rs=[.t 2]:=rfl
noncomputable def yD:=BG UU [] fun c a=>G c [a]
def eK:C:=lpC 0 (yD .skip)
def ALP:C:=(yD eK).1
def yC:Inn UU ALP 35:=inn [] AMI Tryz.ntmps176
noncomputable def C5:Cx:=⟨Tzp,234,Tryz.f234,9,[],[],[.t 4]⟩
instance K4:Good C5:=⟨Tryz.func234,by kernel_rfl,mixed⟩
def Ju:C5.rs=[.t 4]:=rfl
noncomputable def K6:=BG C5 [] (G · [])
def K0:C:=(K6).1
def K5:Inn C5 K0 9:=inn [] K4 Tryz.ntmps234
noncomputable def Du:Cx:=⟨Tzp,235,Tryz.f235,8,[300005],[],[.t 3]⟩
instance P8:Good Du:=⟨Tryz.func235,by kernel_rfl,mixed⟩
def Ov:Du.rs=[.t 3]:=rfl
noncomputable def Pn:=BG Du [] (G · [])
def PW:C:=(Pn).1
def Pd:Inn Du PW 8:=inn [] P8 Tryz.ntmps235
noncomputable def C2:Cx:=⟨Tzp,236,Tryz.f236,9,[],[],[.t 4]⟩
instance Jm:Good C2:=⟨Tryz.func236,by kernel_rfl,mixed⟩
def JQ:C2.rs=[.t 4]:=rfl
noncomputable def Js:=BG C2 [] (G · [])
def Jf:C:=(Js).1
def Jp:Inn C2 Jf 9:=inn [] Jm Tryz.ntmps236
noncomputable def Da:Cx:=⟨Tzp,237,Tryz.f237,8,[300005],[],[.t 3]⟩
instance Oh:Good Da:=⟨Tryz.func237,by kernel_rfl,mixed⟩
def OC:Da.rs=[.t 3]:=rfl
noncomputable def On:=BG Da [] (G · [])
def O8:C:=(On).1
def Ok:Inn Da O8 8:=inn [] Oh Tryz.ntmps237
noncomputable def GM:Cx:=⟨Tzp,238,Tryz.f238,8,[300004],[],[.t 3]⟩
instance Xp:Good GM:=⟨Tryz.func238,by kernel_rfl,mixed⟩
def Wt:GM.rs=[.t 3]:=rfl
noncomputable def YV:=BG GM [] (G · [])
def X4:C:=(YV).1
def YE:Inn GM X4 8:=inn [] Xp Tryz.ntmps238
noncomputable def Mc:Cx:=⟨Tzp,239,Tryz.f239,61,[300047,300052],[],[.t 2,.t 3,.t 4]⟩
instance JH:Good Mc:=⟨Tryz.func239,by kernel_rfl,mixed⟩
def tF:Mc.rs=[.t 2,.t 3,.t 4]:=rfl
noncomputable def Sh:=BG Mc [] fun c a b=>G c [a,b]
def TR:C:=lpC 0 (Sh .skip .skip)
def iR:C:=lpC 1 (Sh TR .skip)
def u6:C:=(Sh TR iR).1
def vS:Inn Mc u6 61:=inn [] JH Tryz.ntmps239
noncomputable def EF:Cx:=⟨Tzp,240,Tryz.f240,19,[],[],[.t 4]⟩
instance Q3:Good EF:=⟨Tryz.func240,by kernel_rfl,mixed⟩
def Px:EF.rs=[.t 4]:=rfl
noncomputable def Ia:=BG EF [] fun c a=>G c [a]
def Ng:C:=lpC 0 (Ia .skip)
def QS:C:=(Ia Ng).1
def Qb:Inn EF QS 19:=inn [] Q3 Tryz.ntmps240
noncomputable def H2:Cx:=⟨Tzp,241,Tryz.f241,39,[300006,300008,300011,300017,300020,300025,300031,300036],[],[.t 2]⟩
instance cK:Good H2:=⟨Tryz.func241,by kernel_rfl,mixed⟩
def aB:H2.rs=[.t 2]:=rfl
noncomputable def dA:=BG H2 [] (G · [])
def bU:C:=(dA).1
def cT:Inn H2 bU 39:=inn [] cK Tryz.ntmps241
noncomputable def LV:Cx:=⟨Tzp,242,Tryz.f242,23,[300004,300008,300013,300019],[],[.t 2]⟩
instance rF:Good LV:=⟨Tryz.func242,by kernel_rfl,mixed⟩
def oR:LV.rs=[.t 2]:=rfl
noncomputable def r9:=BG LV [] (G · [])
def qE:C:=(r9).1
def rP:Inn LV qE 23:=inn [] rF Tryz.ntmps242
noncomputable def Jb:Cx:=⟨Tzp,243,Tryz.f243,9,[],[],[.t 2]⟩
instance nM:Good Jb:=⟨Tryz.func243,by kernel_rfl,mixed⟩
def lB:Jb.rs=[.t 2]:=rfl
noncomputable def oA:=BG Jb [] (G · [])
def nG:C:=(oA).1
def nU:Inn Jb nG 9:=inn [] nM Tryz.ntmps243
noncomputable def GK:Cx:=⟨Tzp,244,Tryz.f244,9,[3],[],[.t 4]⟩
instance Mz:Good GK:=⟨Tryz.func244,by kernel_rfl,mixed⟩
def Wr:GK.rs=[.t 4]:=rfl
noncomputable def YT:=BG GK [] (G · [])
def X2:C:=(YT).1
def YC:Inn GK X2 9:=inn [] Mz Tryz.ntmps244
noncomputable def Ht:Cx:=⟨Tzp,245,Tryz.f245,17,[300004,300008,300014],[],[.t 2]⟩
instance fC:Good Ht:=⟨Tryz.func245,by kernel_rfl,mixed⟩
def dM:Ht.rs=[.t 2]:=rfl
noncomputable def fN:=BG Ht [] (G · [])
def eN:C:=(fN).1
def fF:Inn Ht eN 17:=inn [] fC Tryz.ntmps245
noncomputable def I4:Cx:=⟨Tzp,246,Tryz.f246,15,[],[],[.t 6]⟩
instance jP:Good I4:=⟨Tryz.func246,by kernel_rfl,mixed⟩
def gO:I4.rs=[.t 6]:=rfl
noncomputable def kE:=BG I4 [] (G · [])
def iO:C:=(kE).1
def jX:Inn I4 iO 15:=inn [] jP Tryz.ntmps246
noncomputable def HZ:Cx:=⟨Tzp,247,Tryz.f247,19,[],[],[.t 2,.t 3]⟩
instance cJ:Good HZ:=⟨Tryz.func247,by kernel_rfl,mixed⟩
def Zz:HZ.rs=[.t 2,.t 3]:=rfl
noncomputable def c8:=BG HZ [] (G · [])
def bS:C:=(c8).1
def cR:Inn HZ bS 19:=inn [] cJ Tryz.ntmps247
noncomputable def Cv:Cx:=⟨Tzp,268,Tryz.f268,19,[],[],[.t 4]⟩
instance ME:Good Cv:=⟨Tryz.func268,by kernel_rfl,mixed⟩
def Lc:Cv.rs=[.t 4]:=rfl
noncomputable def Gu:=BG Cv [] fun c a=>G c [a]
def K1:C:=lpC 0 (Gu .skip)
def Lr:C:=(Gu K1).1
def MJ:Inn Cv Lr 19:=inn [] ME Tryz.ntmps268
noncomputable def Ci:Cx:=⟨Tzp,269,Tryz.f269,19,[],[],[.t 4]⟩
instance L6:Good Ci:=⟨Tryz.func269,by kernel_rfl,mixed⟩
def LC:Ci.rs=[.t 4]:=rfl
noncomputable def G9:=BG Ci [] fun c a=>G c [a]
def Jh:C:=lpC 0 (G9 .skip)
def L3:C:=(G9 Jh).1
def L8:Inn Ci L3 19:=inn [] L6 Tryz.ntmps269
noncomputable def Md:Cx:=⟨Tzp,270,Tryz.f270,17,[],[],[.t 2]⟩
instance vJ:Good Md:=⟨Tryz.func270,by kernel_rfl,mixed⟩
def tG:Md.rs=[.t 2]:=rfl
noncomputable def wC:=BG Md [] (G · [])
def u7:C:=(wC).1
def vT:Inn Md u7 17:=inn [] vJ Tryz.ntmps270
noncomputable def PH:Cx:=⟨Tzp,271,Tryz.f271,75,[300038,300048,300064,300070,300020,300074],[],[.c 4 (some 3),.t 5]⟩
instance AAH:Good PH:=⟨Tryz.func271,by kernel_rfl,mixed⟩
def wW:PH.rs=[.c 4 (some 3),.t 5]:=rfl
noncomputable def AAS:=BG PH [] (G · [])
def zZ:C:=(AAS).1
def AAO:Inn PH zZ 75:=inn [] AAH Tryz.ntmps271
noncomputable def DF:Cx:=⟨Tzp,272,Tryz.f272,9,[],[],[.t 4]⟩
instance Mx:Good DF:=⟨Tryz.func272,by kernel_rfl,mixed⟩
def MY:DF.rs=[.t 4]:=rfl
noncomputable def NP:=BG DF [] (G · [])
def Mn:C:=(NP).1
def NG:Inn DF Mn 9:=inn [] Mx Tryz.ntmps272
noncomputable def FH:Cx:=⟨Tzp,273,Tryz.f273,8,[300005],[],[.t 3]⟩
instance Ut:Good FH:=⟨Tryz.func273,by kernel_rfl,mixed⟩
def UG:FH.rs=[.t 3]:=rfl
noncomputable def VI:=BG FH [] (G · [])
def Uc:C:=(VI).1
def VA:Inn FH Uc 8:=inn [] Ut Tryz.ntmps273
noncomputable def Mf:Cx:=⟨Tzp,294,Tryz.f294,9,[],[],[.t 2]⟩
instance vL:Good Mf:=⟨Tryz.func294,by kernel_rfl,mixed⟩
def tI:Mf.rs=[.t 2]:=rfl
noncomputable def wE:=BG Mf [] (G · [])
def vA:C:=(wE).1
def vV:Inn Mf vA 9:=inn [] vL Tryz.ntmps294
noncomputable def Mh:Cx:=⟨Tzp,295,Tryz.f295,9,[],[],[.t 2]⟩
instance vN:Good Mh:=⟨Tryz.func295,by kernel_rfl,mixed⟩
def tK:Mh.rs=[.t 2]:=rfl
noncomputable def wF:=BG Mh [] (G · [])
def vC:C:=(wF).1
def vX:Inn Mh vC 9:=inn [] vN Tryz.ntmps295
noncomputable def LW:Cx:=⟨Tzp,296,Tryz.f296,22,[],[],[.t 4]⟩
instance rG:Good LW:=⟨Tryz.func296,by kernel_rfl,mixed⟩
def oS:LW.rs=[.t 4]:=rfl
noncomputable def YW:=BG LW [] fun c a=>G c [a]
def eO:C:=lpC 0 (YW .skip)
def qF:C:=(YW eO).1
def rQ:Inn LW qF 22:=inn [] rG Tryz.ntmps296
noncomputable def LX:Cx:=⟨Tzp,297,Tryz.f297,17,[],[],[.t 2]⟩
instance rH:Good LX:=⟨Tryz.func297,by kernel_rfl,mixed⟩
def oT:LX.rs=[.t 2]:=rfl
noncomputable def sA:=BG LX [] (G · [])
def qG:C:=(sA).1
def rR:Inn LX qG 17:=inn [] rH Tryz.ntmps297
noncomputable def Jd:Cx:=⟨Tzp,298,Tryz.f298,33,[],[],[.t 2]⟩
instance nO:Good Jd:=⟨Tryz.func298,by kernel_rfl,mixed⟩
def lD:Jd.rs=[.t 2]:=rfl
noncomputable def oC:=BG Jd [] (G · [])
def nI:C:=(oC).1
def nW:Inn Jd nI 33:=inn [] nO Tryz.ntmps298
noncomputable def Me:Cx:=⟨Tzp,299,Tryz.f299,9,[],[],[.t 2]⟩
instance vK:Good Me:=⟨Tryz.func299,by kernel_rfl,mixed⟩
def tH:Me.rs=[.t 2]:=rfl
noncomputable def wD:=BG Me [] (G · [])
def u9:C:=(wD).1
def vU:Inn Me u9 9:=inn [] vK Tryz.ntmps299
noncomputable def Mg:Cx:=⟨Tzp,300,Tryz.f300,21,[],[],[.t 2]⟩
instance vM:Good Mg:=⟨Tryz.func300,by kernel_rfl,mixed⟩
def tJ:Mg.rs=[.t 2]:=rfl
noncomputable def aW:=BG Mg [] fun c a=>G c [a]
def iS:C:=lpC 0 (aW .skip)
def vB:C:=(aW iS).1
def vW:Inn Mg vB 21:=inn [] vM Tryz.ntmps300
noncomputable def PI:Cx:=⟨Tzp,301,Tryz.f301,32,[],[],[.t 2]⟩
instance Uv:Good PI:=⟨Tryz.func301,by kernel_rfl,mixed⟩
def wX:PI.rs=[.t 2]:=rfl
noncomputable def AAT:=BG PI [] (G · [])
def z6:C:=(AAT).1
def fG:Inn PI z6 32:=inn [] Uv Tryz.ntmps301
noncomputable def Ds:Cx:=⟨Tzp,204,Tryz.f204,19,[],[],[.t 4]⟩
instance P6:Good Ds:=⟨Tryz.func204,by kernel_rfl,mixed⟩
def Ot:Ds.rs=[.t 4]:=rfl
noncomputable def IF:=BG Ds [] fun c a=>G c [a]
def Mp:C:=lpC 0 (IF .skip)
def PU:C:=(IF Mp).1
def Pb:Inn Ds PU 19:=inn [] P6 Tryz.ntmps204
attribute [go_sem] AEU oQ ABI AEV oO oN aA lC Yd V2 AEP oM gQ Qs Ws Py UH aD gP NX V1 aC AES AET AER wU AEQ AIX Ju Ov JQ OC Wt tF Px aB oR lB Wr dM gO Zz Lc LC tG wW MY UG tI tK oS oT lD tH tJ wX Ot
end
def eW {ds:List DV} (h:DT Tzp 67 ds):∃l:List Str,ds=[.sl (l.map BX)]:=by
 obtain ⟨rows,rfl,_,hr⟩:=h.YM Tryz.underlying67
 obtain ⟨l,rfl⟩:=LB (f:=BX) rows (fun r hm=>by
  obtain ⟨s,rfl,_⟩:=(hr r hm).VF Tryz.underlying9;exact ⟨s,rfl⟩)
 exact ⟨l,rfl⟩
def AYB:∀(n:Nat) (ds:List DV),SizeOf.sizeOf ds<=n->DT Tzp 93 ds->∃t:TE,ds=t.enc:=by
 intro n
 induction n with
 |zero=>intro ds h;cases ds<;>simp at h
 |succ n ih=>
  intro ds hn h;obtain ⟨a,b,rfl,h1,hb⟩:=(h.Jr Tryz.underlying93).Cz;obtain ⟨a2,b2,rfl,h2,hb2⟩:=hb.Cz;obtain ⟨a3,b3,rfl,h3,hb3⟩:=hb2.Cz;cases hb3.VE;obtain ⟨k,rfl,_⟩:=h1.AAP Tryz.underlying3;obtain ⟨m,rfl,_⟩:=h2.VF Tryz.underlying9;obtain ⟨rows,rfl,_,hr⟩:=h3.YM Tryz.underlying89
  obtain ⟨l,rfl⟩:=LB (f:=TE.enc) rows (fun r hm=>ih r (by
   have:=List.sizeOf_lt_of_mem hm;simp only [AX,Ag,Bu,List.cons.sizeOf_spec,List.nil.sizeOf_spec,DV.int.sizeOf_spec,DV.str.sizeOf_spec,DV.sl.sizeOf_spec] at hn;omega) (hr r hm))
  exact ⟨.mk k m l,by rw [TE.A4];rfl⟩
def AX8:∀(n:Nat) (ds:List DV),SizeOf.sizeOf ds<=n->DT Tzp 71 ds->∃t:Ex,ds=t.enc:=by
 intro n
 induction n with
 |zero=>intro ds h;cases ds<;>simp at h
 |succ n ih=>
  intro ds hn h;obtain ⟨a,b,rfl,h1,hb⟩:=(h.Jr Tryz.underlying71).Cz;obtain ⟨a2,b2,rfl,h2,hb2⟩:=hb.Cz;obtain ⟨a3,b3,rfl,h3,hb3⟩:=hb2.Cz;obtain ⟨a4,b4,rfl,h4,hb4⟩:=hb3.Cz;obtain ⟨a5,b5,rfl,h5,hb5⟩:=hb4.Cz;obtain ⟨a6,b6,rfl,h6,hb6⟩:=hb5.Cz;cases hb6.VE;obtain ⟨o,rfl,_⟩:=h1.AAP Tryz.underlying3;obtain ⟨m,rfl,_⟩:=h2.VF Tryz.underlying9;obtain ⟨u,rfl,_⟩:=h3.AAP Tryz.underlying2;obtain ⟨ns,rfl⟩:=eW h4;obtain ⟨rows,rfl,_,hr⟩:=h5.YM Tryz.underlying68;obtain ⟨rows2,rfl,_,hr2⟩:=h6.YM Tryz.underlying69;simp only [AX,Ag,Bu,List.cons.sizeOf_spec,List.nil.sizeOf_spec,DV.int.sizeOf_spec,DV.str.sizeOf_spec,DV.sl.sizeOf_spec] at hn
  obtain ⟨l,rfl⟩:=LB (f:=Ex.enc) rows (fun r hm=>ih r (by
   have:=List.sizeOf_lt_of_mem hm;omega) (hr r hm))
  obtain ⟨l2,rfl⟩:=LB (f:=Al.enc) rows2 (fun r hm=>by
   have hlt:=List.sizeOf_lt_of_mem hm;obtain ⟨c1,d1,rfl,g1,e1⟩:=((hr2 r hm).Jr Tryz.underlying158).Cz;obtain ⟨c2,d2,rfl,g2,e2⟩:=e1.Cz;obtain ⟨c3,d3,rfl,g3,e3⟩:=e2.Cz;cases e3.VE;obtain ⟨c,rfl,_⟩:=g1.VF Tryz.underlying9;obtain ⟨vs,rfl⟩:=eW g2;simp only [AX,Ag,Bu,List.cons.sizeOf_spec,DV.str.sizeOf_spec,DV.sl.sizeOf_spec] at hlt;obtain ⟨e,rfl⟩:=ih c3 (by omega) g3;exact ⟨.mk c vs e,by simp [Al.enc,ssD]⟩)
  exact ⟨.mk o m u ns l l2,by rw [Ex.A4];rfl⟩
def AX6 (ds:List DV) (h:DT Tzp 91 ds):∃c:CE,ds=c.enc:=by
 obtain ⟨a,b,rfl,h1,hb⟩:=(h.Jr Tryz.underlying91).Cz;obtain ⟨a2,b2,rfl,h2,hb2⟩:=hb.Cz;cases hb2.VE;obtain ⟨s,rfl,_⟩:=h1.VF Tryz.underlying9;obtain ⟨rows,rfl,_,hr⟩:=h2.YM Tryz.underlying89;obtain ⟨l,rfl⟩:=LB (f:=TE.enc) rows (fun r hm=>AYB _ r (AS _) (hr r hm));exact ⟨⟨s,l⟩,rfl⟩
def AX7 (ds:List DV) (h:DT Tzp 87 ds):∃c:DE,ds=c.enc:=by
 obtain ⟨a,b,rfl,h1,hb⟩:=(h.Jr Tryz.underlying87).Cz;obtain ⟨a2,b2,rfl,h2,hb2⟩:=hb.Cz;obtain ⟨a3,b3,rfl,h3,hb3⟩:=hb2.Cz;cases hb3.VE;obtain ⟨s,rfl,_⟩:=h1.VF Tryz.underlying9;obtain ⟨vs,rfl⟩:=eW h2;obtain ⟨rows,rfl,_,hr⟩:=h3.YM Tryz.underlying85;obtain ⟨l,rfl⟩:=LB (f:=CE.enc) rows (fun r hm=>AX6 r (hr r hm));exact ⟨⟨s,vs,l⟩,rfl⟩
def AX9 (ds:List DV) (h:DT Tzp 73 ds):∃c:FE,ds=c.enc:=by
 obtain ⟨a,b,rfl,h1,hb⟩:=(h.Jr Tryz.underlying73).Cz;obtain ⟨a2,b2,rfl,h2,hb2⟩:=hb.Cz;obtain ⟨a3,b3,rfl,h3,hb3⟩:=hb2.Cz;cases hb3.VE;obtain ⟨s,rfl,_⟩:=h1.VF Tryz.underlying9;obtain ⟨vs,rfl⟩:=eW h2;obtain ⟨e,rfl⟩:=AX8 _ a3 (AS _) h3;exact ⟨⟨s,vs,e⟩,by simp [FE.enc]⟩
def AYA (ds:List DV) (h:DT Tzp 25 ds):∃p:Pg,ds=p.enc:=by
 obtain ⟨a,b,rfl,h1,hb⟩:=(h.Jr Tryz.underlying25).Cz;obtain ⟨a2,b2,rfl,h2,hb2⟩:=hb.Cz;cases hb2.VE;obtain ⟨rows,rfl,_,hr⟩:=h1.YM Tryz.underlying22;obtain ⟨l,rfl⟩:=LB (f:=DE.enc) rows (fun r hm=>AX7 r (hr r hm));obtain ⟨rows2,rfl,_,hr2⟩:=h2.YM Tryz.underlying23;obtain ⟨l2,rfl⟩:=LB (f:=FE.enc) rows2 (fun r hm=>AX9 r (hr2 r hm));exact ⟨⟨l,l2⟩,rfl⟩
def ATY {av:List AV} (h:pK Tzp [25] av):∃p:Pg,av=[pgA p]:=by
 cases h with
 |cons h1 h=>
  cases h;obtain ⟨p,rfl⟩:=AYA _ h1;exact ⟨p,by rw [lS Tryz.underlying25];rfl⟩
structure Con where
 name:List UInt8
 args:List Ty
structure Dat where
 name:List UInt8
 vars:Int
 cons:List Con
def Con.enc (c:Con):List DV:=[.str c.name,.sl (Ty.HE c.args)]
def Dat.enc (d:Dat):List DV:=[.str d.name,.int .i64 d.vars,.sl (d.cons.map Con.enc)]
def dsA (l:List Dat):AV:= .d (.sl (l.map Dat.enc))
def ZB {l:List Con} {x:Con} (h:l[i]?=some x):(l.map Con.enc)[i]?=some [.str x.name,.sl (Ty.HE x.args)]:=by
 rw [Am,h];rfl
def Um {l:List Dat} {x:Dat} (h:l[i]?=some x):(l.map Dat.enc)[i]?=some [.str x.name,.int .i64 x.vars,.sl (x.cons.map Con.enc)]:=by
 rw [Am,h];rfl
def uF:∀t:Ty,1<=t.size
 | .mk _ _ _=>by simp [Ty.size]
def Ys:∀l:List Ty,l.length<=Ty.AQ l
 |[]=>by simp [Ty.AQ]
 |t::l=>by have:=Ys l;have:=uF t;simp only [A0,Ty.AQ];omega
def DB (l:List Ty) (i:Nat):Ty.AQ (l.take i)<=Ty.AQ l:=by
 have:=Bn (l.take i) (l.drop i);rw [A7] at this;omega
def M1 {a:Nat} (h:a<=9000000000000000000):IntKind.i64.wrap (((a+1:Nat):Int) - 1)=(a:Int):=by
 rw [D4 (by omega) (by omega)];omega
def Run.AKB {cx:Cx} {KK:AV->AH->Prop} {k:List CI} {F:Fm} {L:Lm} {Y σ':AH} (e:σ'=Y) (h:Run cx KK k F L σ'):Run cx KK k F L Y:=e ▸ h
def Run.AH7 {cx:Cx} {KK:AV->AH->Prop} {k:List CI} {c:C} {F:Fm} {L:Lm} {Y:AH} (ks:List Nat) (Fs:α->Fm) (Ls:Lm) (σs:AH) (I:α->Prop) (h2:∀a,I a->Run cx KK k (Fs a) Ls σs)
 (h1:(∀(F':Fm) (L':Lm) (a:α),Gw ks F'=Fs a->Fp ks L'=Ls->I a->Run cx KK k F' L' σs)->Run cx KK (.code c::k) F L Y):Run cx KK (.code c::k) F L Y:=
 h1 fun F' L' a hF hL hI=>Run.JP ks (by rw [hF,hL];exact h2 a hI)
def APJ {Y:AH} {z:List AV} {x:Nat×TypeId} (h:Y.blk i=none/\Y.bt i=none):Y.le ((Y.AL i z).Bl i x)/\((Y.AL i z).Bl i x).blk i=some z:=
 ⟨⟨fun j cs hj=>by
    have hne:j≠i:=fun e=>by rw [e,h.1] at hj;cases hj
    simp [AH.Bl,AH.AL,hne,hj],fun _ h=>h,rfl,fun j y hj=>by
    have hne:j≠i:=fun e=>by rw [e,h.2] at hj;cases hj
    simp [AH.Bl,AH.AL,hne,hj]⟩,by simp [AH.Bl,AH.AL]⟩
def EC {Y:AH} (h:Y.le σ1) (hn:Y.blk i=none):Y.le (σ1.AL i cs):=
 ⟨fun j ds hj=>by
   have hne:j≠i:=fun e=>by rw [e,hn] at hj;cases hj
   rw [AJ,if_neg hne];exact h.blk j ds hj,h.tok,h.gt,h.bt⟩
def CA (a b:List UInt8):ABU .eql a b=some (.d (.bool (a==b))):=rfl
def F1 (a b:List UInt8):ABU .neq a b=some (.d (.bool (!(a==b)))):=rfl
def gtN (n k:Nat):decide ((k:Int) < (n:Int))=!decide (n<=k):=by
 rw [Ak];simp
def leN (n k:Nat):decide ((n:Int)<=(k:Int))=decide (n<=k):=decide_eq_decide.2 (by omega)
def ltN (n k:Nat):decide ((n:Int) < (k:Int))=decide (n < k):=decide_eq_decide.2 (by omega)
def APO (a b:Nat):((a:Int) != (b:Int))=(a != b):=by
 rw [Ak];simp;omega
def Cf {a b:Int} (h:a≠b):(a==b)=false:=by simpa using h
def Cd (data:List Dat) (vars k n:Int) (len:Nat):Bool:=
 if k=1\/k=2\/k=3 then (n==0)&&(len==0)
                               else if k=4 then decide (0<=n)&&decide (n < vars)&&(len==0)
                               else if k=5 then decide (0<=n)&&(match data[n.toNat]? with|some d=>((len:Int)==d.vars)|none=>false)
                               else if k=6 then (n==0)&&decide (2<=len)&&decide (len<=6)
                               else if k=7\/k=8 then (n==0)&&(len==1)
                               else if k=9 then (n==0)&&decide (1<=len)&&decide (len<=7)
                               else false
mutual
def CH (data:List Dat) (vars:Int):Ty->Bool
 | .mk k n l=>Cd data vars k n l.length&&Bo data vars l
def Bo (data:List Dat) (vars:Int):List Ty->Bool
 |[]=>true
 |t::l=>CH data vars t&&Bo data vars l
end
def Vd (data:List Dat) (vars:Int) (t:Ty):∀l:List Ty,Bo data vars (l++[t])=(Bo data vars l&&CH data vars t)
 |[]=>by simp [Bo]
 |u::l=>by simp only [AX,Bo,Vd data vars t l,Bool.and_assoc]
def mN (data:List Dat) (vars:Int):∀l m:List Ty,Bo data vars (l++m)=(Bo data vars l&&Bo data vars m)
 |[],m=>by simp [Bo]
 |u::l,m=>by simp only [AX,Bo,mN data vars l m,Bool.and_assoc]
def Yw {data:List Dat} {vars:Int} {t:Ty} (h:l[i]?=some t) (hv:CH data vars t=false):Bo data vars l=false:=by
 rw [<- A7 i l,mN,By h,Bo,hv];simp
def AFE {data:List Dat} {vars:Int} {t:Ty} (hl:Bo data vars l=true) (ht:t∈l):CH data vars t=true:=by
 obtain ⟨i,hi⟩:=List.mem_iff_getElem?.1 ht;cases h:CH data vars t with
 |true=>rfl
 |false=>rw [Yw hi h] at hl;cases hl
mutual
def Ty.subst (args:List Ty):Ty->Ty
 | .mk k n l=>if k=4/\0<=n/\n < args.length then args.getD n.toNat (.mk 0 0 []) else .mk k n (Ty.G3 args l)
def Ty.G3 (args:List Ty):List Ty->List Ty
 |[]=>[]
 |t::l=>Ty.subst args t::Ty.G3 args l
end
mutual
def y8:∀t:Ty,t.subst []=t
 | .mk k n l=>by
  simp only [Ty.subst];rw [if_neg (by intro h;have:=h.2.2;simp at this;omega),tZ l]
def tZ:∀l:List Ty,Ty.G3 [] l=l
 |[]=>rfl
 |t::l=>by simp [Ty.G3,y8 t,tZ l]
end
def Jx (args:List Ty):∀l:List Ty,Ty.G3 args l=l.map (Ty.subst args)
 |[]=>rfl
 |t::l=>by simp [Ty.G3,Jx args l]
def dQ (args l:List Ty):(Ty.G3 args l).length=l.length:=by rw [Jx,AA]
def AJB {args:List Ty} {M:Nat} (hM:1<=M) (ha:∀t∈args,t.size<=M):(∀t:Ty,(t.subst args).size<=t.size * M)/\∀l:List Ty,Ty.AQ (Ty.G3 args l)<=Ty.AQ l * M:=by
 have key:∀n:Nat,(∀t:Ty,t.size<=n->(t.subst args).size<=t.size * M)/\∀l:List Ty,Ty.AQ l<=n->Ty.AQ (Ty.G3 args l)<=Ty.AQ l * M:=by
  intro n
  induction n with
  |zero=>
   refine ⟨fun t h=>?_,fun l h=>?_⟩
   . obtain ⟨k,m,l⟩:=t;simp only [Ty.size] at h;omega
   . cases l with
     |nil=>simp [Ty.G3,Ty.AQ]
     |cons t l=>obtain ⟨k,m,l'⟩:=t;simp only [Ty.AQ,Ty.size] at h;omega
  |succ n ih=>
   have h1:∀t:Ty,t.size<=n+1->(t.subst args).size<=t.size * M:=fun t h=>by
    obtain ⟨k,m,l⟩:=t;simp only [Ty.subst];split
    . rename_i hc;have hlt:m.toNat < args.length:=by omega
      have:=ha args[m.toNat] (E5 hlt);simp only [A2,Ay hlt,BA,Ty.size]
      calc args[m.toNat].size<=M:=this
       _=1 * M:=(Nat.one_mul M).symm
       _<=(1+Ty.AQ l) * M:=Bi M (by omega)
    . simp only [Ty.size] at h ⊢;have:=ih.2 l (by omega);rw [Bs];omega
   refine ⟨h1,fun l=>?_⟩
   induction l with
   |nil=>intro _;simp [Ty.G3,Ty.AQ]
   |cons t l ihl=>
    intro h;simp only [Ty.AQ,Ty.G3] at h ⊢;have:=h1 t (by omega);have:=ihl (by omega);rw [Bs];omega
 exact ⟨fun t=>(key t.size).1 t (AS _),fun l=>(key (Ty.AQ l)).2 l (AS _)⟩
def AE7 {dt:List Dat} {args:List Ty} {v w:Int} (hl:v<=args.length) (ha:Bo dt w args=true):∀n:Nat,(∀t:Ty,t.size<=n->CH dt v t=true->CH dt w (t.subst args)=true)/\∀l:List Ty,Ty.AQ l<=n->Bo dt v l=true->Bo dt w (Ty.G3 args l)=true:=by
 intro n
 induction n with
 |zero=>
  refine ⟨fun t h=>?_,fun l h _=>?_⟩
  . obtain ⟨k,m,l⟩:=t;simp only [Ty.size] at h;omega
  . cases l with
    |nil=>rfl
    |cons t l=>obtain ⟨k,m,l'⟩:=t;simp only [Ty.AQ,Ty.size] at h;omega
 |succ n ih=>
  have h1:∀t:Ty,t.size<=n+1->CH dt v t=true->CH dt w (t.subst args)=true:=fun t h hv=>by
   obtain ⟨k,m,l⟩:=t;simp only [CH,AO] at hv;simp only [Ty.subst];split
   . rename_i hc;have hlt:m.toNat < args.length:=by omega
     rw [A2,Ay hlt,BA];exact AFE ha (E5 hlt)
   . rename_i hc;simp only [Ty.size] at h;rw [CH,dQ,ih.2 l (by omega) hv.2,BU];have hs:=hv.1;unfold Cd at hs ⊢;by_cases h4:k=4
     . subst h4;simp only [Int.reduceEq,or_self,if_false,if_true,AO,decide_eq_true_eq] at hs;exact absurd ⟨rfl,hs.1.1,by omega⟩ hc
     . simpa only [h4,if_false] using hs
  refine ⟨h1,fun l=>?_⟩
  induction l with
  |nil=>intro _ _;rfl
  |cons t l ihl=>
   intro h hv;simp only [Ty.AQ,Ty.G3,Bo,AO] at h hv ⊢;exact ⟨h1 t (by omega) hv.1,ihl (by omega) hv.2⟩
set_option maxRecDepth 100000
set_option maxHeartbeats 40000000
noncomputable section
def UQ:List (Nat×PT):=[(17,(pL [9] (pO [0,1,2,3,4,5,6,7,8,10,11] .done))),(23,(pL [10] (pO [0,1,2,3,4,5,6,7,8,9,11] .done)))]
noncomputable def FW:Cx:=⟨Tzp,9,Tryz.f9,114,[300020,300025,300027,300031,300039,300044,300048,300063,300075,300084,300086,300088,300093,300096,300103,300106,300108],[],[.t 2,.c 3 (some 3)]⟩
instance Gp:Good FW:=⟨Tryz.func9,by kernel_rfl,mixed⟩
def R9:FW.rs=[.t 2,.c 3 (some 3)]:=rfl
noncomputable def IW:=BG FW UQ fun c a b d=>G c [a,b,d]
def Ih:C:=lpC 0 (IW .skip .skip .skip)
def OJ:C:=lpC 1 (IW Ih .skip .skip)
def Z6:C:=lpC 2 (IW Ih OJ .skip)
def iM:C:=(IW Ih OJ Z6).1
def jV:Inn FW iM 114:=inn UQ Gp Tryz.ntmps9
noncomputable def J8:Cx:=⟨Tzp,13,Tryz.f13,27,[300011,300016,300019,300020,300025],[],[.t 4,.t 5]⟩
instance No:Good J8:=⟨Tryz.func13,by kernel_rfl,mixed⟩
def k8:J8.rs=[.t 4,.t 5]:=rfl
noncomputable def nZ:=BG J8 [] (G · [])
def nD:C:=(nZ).1
def nR:Inn J8 nD 27:=inn [] No Tryz.ntmps13
noncomputable def I3:Cx:=⟨Tzp,19,Tryz.f19,30,[300011,300016,300020,300021,300026,300028],[],[.t 4,.c 5 (some 3),.t 6]⟩
instance MH:Good I3:=⟨Tryz.func19,by kernel_rfl,mixed⟩
def gN:I3.rs=[.t 4,.c 5 (some 3),.t 6]:=rfl
noncomputable def kD:=BG I3 [] (G · [])
def iN:C:=(kD).1
def jW:Inn I3 iN 30:=inn [] MH Tryz.ntmps19
def Yn:List (Nat×PT):=[(3,(pO [0] (.alt 1 (pO [2,3] .done) (.alt 2 (pO [1,3] .done) .done))))]
noncomputable def LR:Cx:=⟨Tzp,30,Tryz.f30,28,[300009,300014,300017,300019,300023,300025],[],[.c 2 (some 5),.c 3 (some 3)]⟩
instance P7:Good LR:=⟨Tryz.func30,by kernel_rfl,mixed⟩
def WC:LR.rs=[.c 2 (some 5),.c 3 (some 3)]:=rfl
noncomputable def r8:=BG LR Yn (G · [])
def qC:C:=(r8).1
def rN:Inn LR qC 28:=inn Yn P7 Tryz.ntmps30
noncomputable def J9:Cx:=⟨Tzp,31,Tryz.f31,20,[3,300007,300013,300017],[],[.c 2 (some 2)]⟩
instance Vx:Good J9:=⟨Tryz.func31,by kernel_rfl,mixed⟩
def k9:J9.rs=[.c 2 (some 2)]:=rfl
noncomputable def Vz:=BG J9 [] fun c a=>G c [a]
def bQ:C:=lpC 0 (Vz .skip)
def nE:C:=(Vz bQ).1
def nS:Inn J9 nE 20:=inn [] Vx Tryz.ntmps31
def IP:List (Nat×PT):=[(9,(pL [9] (pO [0,1,2,4,5,6,3,7,8,10] .done))),(13,(pO [0,1,2,3,4,6,7,8,5,9,10,11,12,13,14] .done))]
noncomputable def Dt:Cx:=⟨Tzp,32,Tryz.f32,89,[2,46,300012,300016,300028,300032,300035,300039,300044,300049,300053,300060,300069,300072,300076,300088],[],[.c 4 (some 5),.t 5]⟩
instance CG:Good Dt:=⟨Tryz.func32,by kernel_rfl,mixed⟩
def Ou:Dt.rs=[.c 4 (some 5),.t 5]:=rfl
noncomputable def IH:=BG Dt IP fun c a=>G c [a]
def Mq:C:=lpC 0 (IH .skip)
def PV:C:=(IH Mq).1
def Pc:Inn Dt PV 89:=inn IP CG Tryz.ntmps32
def N3:List (Nat×PT):=[(3,(pO [0,1,2,3,4,5,7,8,9,10,11,12,13] (.alt 6 (pO [14,15] .done) (.alt 14 (pO [6,15] .done) .done))))]
noncomputable def GJ:Cx:=⟨Tzp,33,Tryz.f33,30,[9,300007,300012,300019],[],[.t 4]⟩
instance My:Good GJ:=⟨Tryz.func33,by kernel_rfl,mixed⟩
def Lk:GJ.rs=[.t 4]:=rfl
noncomputable def YS:=BG GJ N3 (G · [])
def X1:C:=(YS).1
def YB:Inn GJ X1 30:=inn N3 My Tryz.ntmps33
def WI:List (Nat×PT):=[(1,(pO [0,1,2,5,6,3,4,7,8,9,10] .done))]
noncomputable def Ja:Cx:=⟨Tzp,61,Tryz.f61,30,[300008,300012,300018,300025],[],[]⟩
instance Vy:Good Ja:=⟨Tryz.func61,by kernel_rfl,mixed⟩
def lA:Ja.rs=[]:=rfl
noncomputable def WA:=BG Ja WI fun c a=>G c [a]
def bR:C:=lpC 0 (WA .skip)
def nF:C:=(WA bR).1
def nT:Inn Ja nF 30:=inn WI Vy Tryz.ntmps61
noncomputable def EX:Cx:=⟨Tzp,62,Tryz.f62,14,[],[],[.t 2]⟩
instance JF:Good EX:=⟨Tryz.func62,by kernel_rfl,mixed⟩
def Qr:EX.rs=[.t 2]:=rfl
noncomputable def Sf:=BG EX [] (G · [])
def Rv:C:=(Sf).1
def S2:Inn EX Rv 14:=inn [] JF Tryz.ntmps62
noncomputable def Cu:Cx:=⟨Tzp,63,Tryz.f63,9,[],[],[.t 4]⟩
instance Gn:Good Cu:=⟨Tryz.func63,by kernel_rfl,mixed⟩
def Lb:Cu.rs=[.t 4]:=rfl
noncomputable def MP:=BG Cu [] (G · [])
def Lq:C:=(MP).1
def Gt:Inn Cu Lq 9:=inn [] Gn Tryz.ntmps63
noncomputable def DW:Cx:=⟨Tzp,64,Tryz.f64,9,[300006],[],[.t 3]⟩
instance H9:Good DW:=⟨Tryz.func64,by kernel_rfl,mixed⟩
def NY:DW.rs=[.t 3]:=rfl
noncomputable def Nx:=BG DW [] (G · [])
def Nh:C:=(Nx).1
def Nr:Inn DW Nh 9:=inn [] H9 Tryz.ntmps64
noncomputable def LZ:Cx:=⟨Tzp,65,Tryz.f65,15,[11,300013],[],[.t 6]⟩
instance Xr:Good LZ:=⟨Tryz.func65,by kernel_rfl,mixed⟩
def oU:LZ.rs=[.t 6]:=rfl
noncomputable def sB:=BG LZ [] (G · [])
def qJ:C:=(sB).1
def rU:Inn LZ qJ 15:=inn [] Xr Tryz.ntmps65
noncomputable def Ck:Cx:=⟨Tzp,66,Tryz.f66,22,[300016],[],[.t 4]⟩
instance G8:Good Ck:=⟨Tryz.func66,by kernel_rfl,mixed⟩
def LF:Ck.rs=[.t 4]:=rfl
noncomputable def Gb:=BG Ck [] fun c a=>G c [a]
def Jj:C:=lpC 0 (Gb .skip)
def L5:C:=(Gb Jj).1
def La:Inn Ck L5 22:=inn [] G8 Tryz.ntmps66
def Ha:List (Nat×PT):=[(3,(pL [6] (pO [0,1,2,3,4,5,7] .done)))]
noncomputable def DX:Cx:=⟨Tzp,67,Tryz.f67,24,[300011,300017,300023],[],[.c 4 (some 3)]⟩
instance Np:Good DX:=⟨Tryz.func67,by kernel_rfl,mixed⟩
def NZ:DX.rs=[.c 4 (some 3)]:=rfl
noncomputable def Ny:=BG DX Ha (G · [])
def Ni:C:=(Ny).1
def Ns:Inn DX Ni 24:=inn Ha Np Tryz.ntmps67
noncomputable def FG:Cx:=⟨Tzp,68,Tryz.f68,107,[4,300087,300100,300103],[],[]⟩
instance Ko:Good FG:=⟨Tryz.func68,by kernel_rfl,mixed⟩
def UF:FG.rs=[]:=rfl
noncomputable def HS:=BG FG [] fun c a b=>G c [a,b]
def I7:C:=lpC 0 (HS .skip .skip)
def QU:C:=lpC 1 (HS I7 .skip)
def Ub:C:=(HS I7 QU).1
def Uz:Inn FG Ub 107:=inn [] Ko Tryz.ntmps68
noncomputable def EW:Cx:=⟨Tzp,69,Tryz.f69,21,[100018],[],[.t 4]⟩
instance SL:Good EW:=⟨Tryz.func69,by kernel_rfl,mixed⟩
def Qq:EW.rs=[.t 4]:=rfl
noncomputable def JJ:=BG EW [] fun c a=>G c [a]
def O7:C:=lpC 0 (JJ .skip)
def Ru:C:=(JJ O7).1
def S1:Inn EW Ru 21:=inn [] SL Tryz.ntmps69
noncomputable def DG:Cx:=⟨Tzp,104,Tryz.f104,19,[],[],[.t 4,.t 5]⟩
instance HL:Good DG:=⟨Tryz.func104,by kernel_rfl,mixed⟩
def MZ:DG.rs=[.t 4,.t 5]:=rfl
noncomputable def NQ:=BG DG [] (G · [])
def Mr:C:=(NQ).1
def NH:Inn DG Mr 19:=inn [] HL Tryz.ntmps104
noncomputable def uN:Cx:=⟨Tzp,105,Tryz.f105,5,[],[],[.t 2]⟩
instance AQT:Good uN:=⟨Tryz.func105,by kernel_rfl,mixed⟩
noncomputable def D9:Cx:=⟨Tzp,106,Tryz.f106,19,[],[],[.t 4]⟩
instance FC:Good D9:=⟨Tryz.func106,by kernel_rfl,mixed⟩
def OB:D9.rs=[.t 4]:=rfl
noncomputable def Hp:=BG D9 [] fun c a=>G c [a]
def Lv:C:=lpC 0 (Hp .skip)
def O6:C:=(Hp Lv).1
def Hn:Inn D9 O6 19:=inn [] FC Tryz.ntmps106
noncomputable def DO:Cx:=⟨Tzp,107,Tryz.f107,109,[2,300020,300028,300032,300042,300046,300059,300068,300080,300084,300089,300093,300099,300105],[],[.t 4]⟩
instance CQ:Good DO:=⟨Tryz.func107,by kernel_rfl,mixed⟩
def RA:DO.rs=[.t 4]:=rfl
noncomputable def Sm:=BG DO [] (G · [])
def SG:C:=(Sm).1
def Sb:Inn DO SG 109:=inn [] CQ Tryz.ntmps107
noncomputable def LY:Cx:=⟨Tzp,108,Tryz.f108,51,[300009,300013,300018,300025,300030,300032,300035,300042,300043,300050],[],[.c 4 (some 3)]⟩
instance Xq:Good LY:=⟨Tryz.func108,by kernel_rfl,mixed⟩
def WD:LY.rs=[.c 4 (some 3)]:=rfl
noncomputable def YX:=BG LY [] fun c a=>G c [a]
def eP:C:=lpC 0 (YX .skip)
def qI:C:=(YX eP).1
def rT:Inn LY qI 51:=inn [] Xq Tryz.ntmps108
noncomputable def Mi:Cx:=⟨Tzp,109,Tryz.f109,19,[300007,300014],[],[.t 2]⟩
instance vO:Good Mi:=⟨Tryz.func109,by kernel_rfl,mixed⟩
def tL:Mi.rs=[.t 2]:=rfl
noncomputable def aX:=BG Mi [] fun c a=>G c [a]
def iT:C:=lpC 0 (aX .skip)
def vD:C:=(aX iT).1
def vY:Inn Mi vD 19:=inn [] vO Tryz.ntmps109
noncomputable def D5:Cx:=⟨Tzp,110,Tryz.f110,17,[],[],[.t 4]⟩
instance T8:Good D5:=⟨Tryz.func110,by kernel_rfl,mixed⟩
def Ss:D5.rs=[.t 4]:=rfl
noncomputable def KD:=BG D5 [] fun c a=>G c [a]
def Hy:C:=lpC 0 (KD .skip)
def TQ:C:=(KD Hy).1
def Tf:Inn D5 TQ 17:=inn [] T8 Tryz.ntmps110
noncomputable def EV:Cx:=⟨Tzp,112,Tryz.f112,9,[300005],[],[.t 3]⟩
instance SK:Good EV:=⟨Tryz.func112,by kernel_rfl,mixed⟩
def Qp:EV.rs=[.t 3]:=rfl
noncomputable def Se:=BG EV [] (G · [])
def Rt:C:=(Se).1
def S0:Inn EV Rt 9:=inn [] SK Tryz.ntmps112
noncomputable def Dw:Cx:=⟨Tzp,170,Tryz.f170,8,[300005],[],[.t 3]⟩
instance IE:Good Dw:=⟨Tryz.func170,by kernel_rfl,mixed⟩
def Oy:Dw.rs=[.t 3]:=rfl
noncomputable def Po:=BG Dw [] (G · [])
def P1:C:=(Po).1
def Ph:Inn Dw P1 8:=inn [] IE Tryz.ntmps170
attribute [go_sem] R9 k8 gN WC k9 Ou Lk lA Qr Lb NY oU LF NZ UF Qq MZ OB RA WD tL Ss Qp Oy
end
variable {P:Program} {K:CW} {F:Fm} {L:Lm} {Y:AH}
def sel (c:Bool) (v:AV):AV:=if c then v else .tup []
def UM (v:AV):sel true v=v:=rfl
def GV (want:Bool) (x:AV) (c:Bool):Prop:=gdV want x=some c
def GV.t {b:Bool}:GV true (.d (.bool b)) b:=by cases b<;>rfl
def GV.f {b:Bool}:GV false (.d (.bool b)) (!b):=by cases b<;>rfl
def GV.st {b c:Bool}:GV true (sel c (.d (.bool b))) (c&&b):=by cases b<;>cases c<;>rfl
def GV.sf {b c:Bool}:GV false (sel c (.d (.bool b))) (c&& !b):=by cases b<;>cases c<;>rfl
def Is (d:Nat) (v:AV) (F:Fm) (L:Lm) (Y:AH):CW:=fun F' L' σ'=>F'=put d v F/\L'=L/\σ'=Y
def Is.mk {d:Nat} :Is d v F L Y (put d v F) L Y:=⟨rfl,rfl,rfl⟩
def AbV {d s:Nat} {c:Bool} {r:List Q} (hg:GV want (F s) c)
 (hy:c=true->B6 P (Is d v F L Y) [⟨some d,o,none⟩] F L Y)
 (hk:B6 P K r (put d (sel c v) F) L Y):B6 P K (⟨some d,o,some (s,want)⟩::r) F L Y:=by
 show XG (gd F (some (s,want))) (XO P (some d) (B6 P K r) F L Y o) (B6 P K r (BL (some d) (.tup []) F) L Y);have hgd:gd F (some (s,want))=some c:=hg;rw [hgd];cases c with
 |true=>exact AFX (fun F' L' σ' ⟨h1,h2,h3⟩=>by rw [h1,h2,h3];exact hk) (hy rfl)
 |false=>exact hk
def LA (c x:Bool):(if c=true then sel c (.d (.bool x)) else (.d (.bool false)))=AV.d (.bool (c&&x)):=by cases c<;>rfl
def WB (c x:Bool):(if c=true then (.d (.bool true)) else sel (!c) (.d (.bool x)))=AV.d (.bool (c||x)):=by cases c<;>rfl
def QJ {P:Program} {K:CW} {F:Fm} {L:Lm} {Y:AH} {d s:Nat} {c:Bool} {r:List Q} (hg:GV want (F s) c)
 (h:∃v,(c=true->B6 P (Is d v F L Y) [⟨some d,o,none⟩] F L Y)/\B6 P K r (put d (sel c v) F) L Y):B6 P K (⟨some d,o,some (s,want)⟩::r) F L Y:=by
 obtain ⟨v,h1,h2⟩:=h;exact AbV hg h1 h2
def Is.pv {d:Nat} {F:Fm} {L:Lm} {Y:AH} {x:Option AV} (h:x=some v):XPv x (some d) (Is d v F L Y) F L Y:=by
 subst h;exact Is.mk
def AI.AG1 {P:Program} {f:FuncId} {args args':List AV} {d:Option Nat} {K:CW} {F:Fm} {L:Lm} {Y:AH} (e:args=args') (h:AI P f args' d K F L Y):AI P f args d K F L Y:=e ▸ h
def gT (c:Bool) (v:AV):sel c (sel c v)=sel c v:=by cases c<;>rfl
def ABL (c x:Bool) (v:AV):sel (c&&x) (sel c v)=sel (c&&x) v:=by cases c<;>cases x<;>rfl
def ABM (c x:Bool) (v:AV):sel (c&&x) (sel x v)=sel (c&&x) v:=by cases c<;>cases x<;>rfl
def kR (c x:Bool):(if (!c)=true then (.d (.bool true)) else sel c (.d (.bool x)))=AV.d (.bool (!c||x)):=by cases c<;>rfl
def wJ (n:Int):Bool:=decide (97<=n)&&decide (n<=122)
def o6 (n:Int):Bool:=decide (65<=n)&&decide (n<=90)
def Km (n:Int):Bool:=decide (48<=n)&&decide (n<=57)
def K7 (n:Int):Bool:=wJ n||o6 n||Km n||(n==95)
def AF5 (n:Int):Bool:=(n==9)||(n==10)||(n==13)||(n==32)
def Yp (n:Int) (Y:AH):AR Tzp 294 [.d (.int .u8 n)] Y (fun v σ'=>v= .d (.bool (wJ n))/\σ'=Y):=by
 refine vV (by simp) ?_;rw [Bj];(repeat' ((first|refine wP ?_|(refine Ae rfl (fun h=>?_) (fun h=>?_)<;>try (cases h;done))|fail)<;>try simp only [go_sem]))
 all_goals (simp_all [wJ];try omega)
def Yq (n:Int) (Y:AH):AR Tzp 295 [.d (.int .u8 n)] Y (fun v σ'=>v= .d (.bool (o6 n))/\σ'=Y):=by
 refine vX (by simp) ?_;rw [Bj];(repeat' ((first|refine wP ?_|(refine Ae rfl (fun h=>?_) (fun h=>?_)<;>try (cases h;done))|fail)<;>try simp only [go_sem]))
 all_goals (simp_all [o6];try omega)
def QE (n:Int) (Y:AH):AR Tzp 299 [.d (.int .u8 n)] Y (fun v σ'=>v= .d (.bool (Km n))/\σ'=Y):=by
 refine vU (by simp) ?_;rw [Bj];(repeat' ((first|refine wP ?_|(refine Ae rfl (fun h=>?_) (fun h=>?_)<;>try (cases h;done))|fail)<;>try simp only [go_sem]))
 all_goals (simp_all [Km];try omega)
def KH (n:Int) (Y:AH):AR Tzp 171 [.d (.int .u8 n)] Y (fun v σ'=>v= .d (.bool (wJ n))/\σ'=Y):=by
 refine AHJ (by simp) ?_;rw [Bj];(repeat' ((first|refine wP ?_|(refine Ae rfl (fun h=>?_) (fun h=>?_)<;>try (cases h;done))|fail)<;>try simp only [go_sem]))
 all_goals (simp_all [wJ];try omega)
def KI (n:Int) (Y:AH):AR Tzp 172 [.d (.int .u8 n)] Y (fun v σ'=>v= .d (.bool (o6 n))/\σ'=Y):=by
 refine AHK (by simp) ?_;rw [Bj];(repeat' ((first|refine wP ?_|(refine Ae rfl (fun h=>?_) (fun h=>?_)<;>try (cases h;done))|fail)<;>try simp only [go_sem]))
 all_goals (simp_all [o6];try omega)
def IL (n:Int) (Y:AH):AR Tzp 173 [.d (.int .u8 n)] Y (fun v σ'=>v= .d (.bool (Km n))/\σ'=Y):=by
 refine AHI (by simp) ?_;rw [Bj];(repeat' ((first|refine wP ?_|(refine Ae rfl (fun h=>?_) (fun h=>?_)<;>try (cases h;done))|fail)<;>try simp only [go_sem]))
 all_goals (simp_all [Km];try omega)
def LK (n:Int) (Y:AH):AR Tzp 270 [.d (.int .u8 n)] Y (fun v σ'=>v= .d (.bool (AF5 n))/\σ'=Y):=by
 refine vT (by simp) ?_;rw [Bj];(repeat' ((first|refine wP ?_|(refine Ae rfl (fun h=>?_) (fun h=>?_)<;>try (cases h;done))|fail)<;>try simp only [go_sem]))
 all_goals simp_all [AF5]
def o0 (n:Int) (Y:AH):AR Tzp 297 [.d (.int .u8 n)] Y (fun v σ'=>v= .d (.bool (K7 n))/\σ'=Y):=by
 refine rR (by simp) ?_;rw [Bj];(repeat' (first|((first|refine wP ?_|refine AI.det (Yp _ _) ?_|refine AI.det (Yq _ _) ?_|refine AI.det (QE _ _) ?_|(refine Ae rfl (fun h=>?_) (fun h=>?_)<;>try (cases h;done))|fail)<;>try simp only [go_sem])|(refine ⟨fun h=>?_,fun h=>?_⟩<;>first|(cases h;done)|try simp only [h])|fail))
 all_goals simp_all [K7]
def Kw:List Str:=[[97,114,114,97,121],[98,111,111,108],[99,97,116,99,104],[100,97,116,97],[101,108,115,101],[101,110,100],[102,97,108,115,101],[102,110],[102,117,110],[103,101,116],[105,102],[105,110],[105,110,116],[108,101,110],[108,101,116],[109,97,116,99,104],[110,101,119],[114,97,105,115,101],[114,101,97,100],[114,101,102],[115,101,116],[116,104,101,110],[116,105,99,107],[116,114,117,101],[116,114,121],[117,110,105,116],[119,105,116,104],[119,114,105,116,101]]
def AM9 (s:Str):Bool:=Kw.any (s==·)
def lK (s:Str) (Y:AH):AR Tzp 298 [.d (.str s)] Y (fun v σ'=>v= .d (.bool (AM9 s))/\σ'=Y):=by
 refine nW (by simp) ?_;rw [Bj];(repeat' (first|((first|refine wP ?_|(refine Ae rfl (fun h=>?_) (fun h=>?_)<;>try (cases h;done))|fail)<;>try simp only [go_sem])|(refine ⟨fun h=>?_,fun h=>?_⟩<;>first|(cases h;done)|try simp only [h])|fail))
 all_goals simp only [AM9,Kw,List.any_cons,List.any_nil,L1,N7,Bool.or_true, *]
def wN (s:Str) (Y:AH):AR Tzp 174 [.d (.str s)] Y (fun v σ'=>v= .d (.bool (AM9 s))/\σ'=Y):=by
 refine AAL (by simp) ?_;rw [Bj]
 (repeat (first
   |refine Run.seq ?_
   |refine Run.skip ?_
   |refine Run.block ?_
   |refine Run.blk ?_
   |refine Run.scope ?_
   |refine Run.scp ?_
   |(refine Run.exit rfl ?_)
   |(refine rgQ mxQ ?_;simp only [go_sem])
   |(refine cdQ ?_;simp only [go_sem])))
 refine Run.BB ?_;refine Run.BE ((fun (a0:AV)=>fun (i:Nat)=>put 0 a0 (put 3 (.d (.sl (Kw.map BX))) (put 4 (.d (.int .i64 i)) U))) _) (fun _=>E) (fun _=>Y) (fun i=>i<=Kw.length/\AM9 s=(Kw.drop i).any (s==·)) (fun i=>Kw.length - i) ?_ 0 ⟨by omega,rfl⟩;rintro i ⟨hi,hs⟩ ih;by_cases hlt:i < Kw.length
 . obtain ⟨x,Z⟩:=Ai hlt;have he:=BI (enc:=BX) Z;rw [By Z,List.any_cons] at hs;(repeat' (first|(refine wP ?_<;>try simp only [AA,Ap hlt,he,BX,lN (show i+1<=9000000000000000000 by have:Kw.length=28:=rfl;omega),go_sem])|(refine ⟨fun h=>?_,fun h=>?_⟩<;>first|(cases h;done)|try simp only [h])|fail))
   . rw [hs];simp_all
   . refine ih (i+1) ⟨hlt,?_⟩ (by omega);rw [hs,show (s==x)=(x==s) from BEq.comm,h,Ep]
 . have hge:i=Kw.length:=by omega
   (repeat' (refine wP ?_<;>try simp only [AA,B7 hlt,go_sem]));rw [hs,hge];rfl
def Re:Str->Int->Option Int
 |[],v=>some v
 |b::r,v=>if v * 10+IntKind.u8.wrap ((b.toNat:Int) - 48)>1000000 then none else Re r (v * 10+IntKind.u8.wrap ((b.toNat:Int) - 48))
def AXN (a:Int):0<=IntKind.u8.wrap a/\IntKind.u8.wrap a<=255:=by
 have h1:IntKind.u8.wrap a=a % 256:=by rfl
 rw [h1];omega
def AEI (s:Str) (Y:AH) (hl:s.length<=1000000000):AR Tzp 175 [.d (.str s)] Y (fun v σ'=>v=(match Re s 0 with|some n=>.tup [.d (.int .i64 n),.d (.bool true)]|none=>.tup [.d (.int .i64 0),.d (.bool false)])/\σ'=Y):=by
 refine AHH (by simp) ?_;rw [Bj]
 (repeat (first
   |refine Run.seq ?_
   |refine Run.skip ?_
   |refine Run.block ?_
   |refine Run.blk ?_
   |refine Run.scope ?_
   |refine Run.scp ?_
   |(refine Run.exit rfl ?_)
   |(refine rgQ mxQ ?_;simp only [go_sem])
   |(refine cdQ ?_;simp only [go_sem])))
 refine Run.BB ?_;refine Run.BE ((fun (a0:AV)=>fun (y:Nat×Int)=>put 0 a0 (put 4 (.d (.int .i64 y.2)) (put 5 (.d (.int .i64 y.1)) U))) _) (fun _=>E) (fun _=>Y) (fun y=>y.1<=s.length/\0<=y.2/\y.2<=1000000/\Re s 0=Re (s.drop y.1) y.2) (fun y=>s.length - y.1) ?_ (0,0) ⟨by simp,by simp,by simp,rfl⟩;rintro ⟨i,v⟩ ⟨hi,h0,h1,hs⟩ ih;simp only at hi h0 h1 hs;by_cases hlt:i < s.length
 . obtain ⟨x,Z⟩:=Ai hlt;rw [By Z,Re] at hs;have hu:=AXN ((x.toNat:Int) - 48);have e1:IntKind.i64.wrap (v * 10)=v * 10:=D4 (by omega) (by omega);have e2:IntKind.i64.wrap (IntKind.u8.wrap ((x.toNat:Int) - 48))=IntKind.u8.wrap ((x.toNat:Int) - 48):=D4 (by omega) (by omega);have e3:IntKind.i64.wrap (v * 10+IntKind.u8.wrap ((x.toNat:Int) - 48))=v * 10+IntKind.u8.wrap ((x.toNat:Int) - 48):=D4 (by omega) (by omega);(repeat' (first|(refine wP ?_<;>try simp only [Ap hlt,D6 Z,e1,e2,e3,wsu i,go_sem])|(refine ⟨fun h=>?_,fun h=>?_⟩<;>first|(cases h;done)|try simp only [h])|fail))
   . have:v * 10+IntKind.u8.wrap ((x.toNat:Int) - 48)>1000000:=by simpa using h
     rw [hs,if_pos this]
   . have:¬v * 10+IntKind.u8.wrap ((x.toNat:Int) - 48)>1000000:=by simpa using h
     rw [if_neg this] at hs;exact ih (i+1,_) ⟨hlt,by simp only;omega,by simp only;omega,hs⟩ (by simp only;omega)
 . have hge:i=s.length:=by omega
   (repeat' (refine wP ?_<;>try simp only [B7 hlt,go_sem]));rw [hs,hge,N9,Re]
def tS:Str:=[40,41,44,61,124,43,45,42,47,37,60,59,95]
def ABP (b:UInt8):Nat:=if tS.any (b==·) then 1 else 0
def ASS (b c:UInt8):Bool:=([b,c]==[45,62])||([b,c]==[60,61])||([b,c]==[61,61])
def JT:Str->Nat
 |[]=>0
 |[b]=>ABP b
 |b::c::_=>if ASS b c then 2 else ABP b
def AXB:decide ((2:Int)<=((1:Nat):Int))=false:=rfl
def AXC (n:Nat):decide ((2:Int)<=((n+1+1:Nat):Int))=true:=by simp;omega
def AaO (b c:UInt8):([b]==[c])=(b==c):=by
 rw [Ak];simp
def w8 (s:Str) (Y:AH) (hs:s≠[]):AR Tzp 301 [.d (.str s)] Y (fun v σ'=>v= .d (.str (s.take (JT s)))/\σ'=Y):=by
 match s,hs with
 |[b],_=>
  refine fG (by simp) ?_;rw [Bj];(repeat' (first|refine ctQ rfl ?_|((first|refine rgQ mxQ ?_|refine cdQ ?_|refine Run.qP Uv ?_)<;>try simp only [AXB,AXK,AaO,go_sem])|(refine ⟨fun h=>?_,fun h=>?_⟩<;>first|(cases h;done)|try simp only [h])|fail))
  all_goals simp only [JT,ABP,tS,List.any_cons,List.any_nil,L1,N7,Bool.or_true,reduceIte,C7,C0,A1, *]
 |b::c::r,_=>
  refine fG (by simp) ?_;rw [Bj];(repeat' (first|refine ctQ rfl ?_|((first|refine rgQ mxQ ?_|refine cdQ ?_|refine Run.qP Uv ?_)<;>try simp only [AXC,AXK,AXL,AaO,go_sem])|(refine ⟨fun h=>?_,fun h=>?_⟩<;>first|(cases h;done)|try simp only [h])|fail))
  all_goals simp only [JT,ASS,ABP,tS,List.any_cons,List.any_nil,L1,N7,Bool.or_true,reduceIte,C7,C0,A1, *]
def uD (s:Str) (Y:AH) (hl:s.length<=1000000000):AR Tzp 300 [.d (.str s)] Y (fun v σ'=>v= .d (.bool (Re s 0).isSome)/\σ'=Y):=by
 refine vW (by simp) ?_;rw [Bj]
 (repeat (first
   |refine Run.seq ?_
   |refine Run.skip ?_
   |refine Run.block ?_
   |refine Run.blk ?_
   |refine Run.scope ?_
   |refine Run.scp ?_
   |(refine Run.exit rfl ?_)
   |(refine rgQ mxQ ?_;simp only [go_sem])
   |(refine cdQ ?_;simp only [go_sem])))
 refine Run.BB ?_;refine Run.BE ((fun (a0:AV) (a6:AV)=>fun (y:Nat×Int)=>put 0 a0 (put 3 (.d (.int .i64 y.2)) (put 6 a6 (put 7 (.d (.int .i64 y.1)) U)))) _ _) (fun _=>E) (fun _=>Y) (fun y=>y.1<=s.length/\0<=y.2/\y.2<=1000000/\Re s 0=Re (s.drop y.1) y.2) (fun y=>s.length - y.1) ?_ (0,0) ⟨by simp,by simp,by simp,rfl⟩;rintro ⟨i,v⟩ ⟨hi,h0,h1,hs⟩ ih;simp only at hi h0 h1 hs;by_cases hlt:i < s.length
 . obtain ⟨x,Z⟩:=Ai hlt;rw [By Z,Re] at hs;have hu:=AXN ((x.toNat:Int) - 48);have e1:IntKind.i64.wrap (v * 10)=v * 10:=D4 (by omega) (by omega);have e2:IntKind.i64.wrap (IntKind.u8.wrap ((x.toNat:Int) - 48))=IntKind.u8.wrap ((x.toNat:Int) - 48):=D4 (by omega) (by omega);have e3:IntKind.i64.wrap (v * 10+IntKind.u8.wrap ((x.toNat:Int) - 48))=v * 10+IntKind.u8.wrap ((x.toNat:Int) - 48):=D4 (by omega) (by omega);(repeat' (first|(refine wP ?_<;>try simp only [Ap hlt,D6 Z,e1,e2,e3,wsu i,go_sem])|(refine ⟨fun h=>?_,fun h=>?_⟩<;>first|(cases h;done)|try simp only [h])|fail))
   . have:v * 10+IntKind.u8.wrap ((x.toNat:Int) - 48)>1000000:=by simpa using h
     rw [hs,if_pos this];rfl
   . have:¬v * 10+IntKind.u8.wrap ((x.toNat:Int) - 48)>1000000:=by simpa using h
     rw [if_neg this] at hs;exact ih (i+1,_) ⟨hlt,by simp only;omega,by simp only;omega,hs⟩ (by simp only;omega)
 . have hge:i=s.length:=by omega
   (repeat' (refine wP ?_<;>try simp only [B7 hlt,go_sem]));rw [hs,hge,N9,Re];rfl
def FB (c:Int->Bool) (b:UInt8):Bool:=c b.toNat
def F2 {c:UInt8->Bool} {s:Str} (h:∀j b,j < i->s[j]?=some b->c b=true) (hi:i<=s.length) (he:∀b,s[i]?=some b->c b=false):s.takeWhile c=s.take i:=by
 induction i generalizing s with
 |zero=>
  cases s with
  |nil=>rfl
  |cons b r=>simp [he b rfl]
 |succ i ih=>
  cases s with
  |nil=>simp at hi
  |cons b r=>
   have hb:c b=true:=h 0 b (by omega) rfl;rw [List.takeWhile_cons,hb,if_pos rfl,C7,ih (fun j b hj hb=>h (j+1) b (by omega) hb) (by simpa using hi) (fun b hb=>he b hb)]
def WJ (hb:CT Tzp fid=true) (c:Int->Bool) (hc:∀n Y,AR Tzp fid [.d (.int .u8 n)] Y (fun v σ'=>v= .d (.bool (c n))/\σ'=Y)) (s:Str) (Y:AH) (hl:s.length<=1000000000):
 AR Tzp 296 [.d (.str s),.fn fid [] []] Y (fun v σ'=>v= .d (.str (s.takeWhile (FB c)))/\σ'=Y):=by
 refine rQ (by simp) ?_;rw [BD]
 (repeat (first
   |refine Run.seq ?_
   |refine Run.skip ?_
   |refine Run.block ?_
   |refine Run.blk ?_
   |refine Run.scope ?_
   |refine Run.scp ?_
   |(refine Run.exit rfl ?_)
   |(refine rgQ mxQ ?_;simp only [go_sem])
   |(refine cdQ ?_;simp only [go_sem])))
 refine Run.BB ?_;refine Run.BE ((fun (a0:AV) (a1:AV)=>fun (i:Nat)=>put 0 a0 (put 1 a1 (put 5 (.d (.int .i64 i)) U))) _ _) (fun _=>E) (fun _=>Y) (fun i=>i<=s.length/\∀j b,j < i->s[j]?=some b->FB c b=true) (fun i=>s.length - i) ?_ 0 ⟨by simp,by simp⟩;rintro i ⟨hi,hs⟩ ih;by_cases hlt:i < s.length
 . obtain ⟨x,Z⟩:=Ai hlt;(repeat' (first|((first|refine wP ?_|(refine ⟨fid,[],[],rfl,hb,AI.det (hc _ _) ?_⟩)|fail)<;>try simp only [Ap hlt,D6 Z,ABT hi,wsu i,go_sem])|(refine ⟨fun h=>?_,fun h=>?_⟩<;>first|(cases h;done)|try simp only [h])|fail))
   . refine ih (i+1) ⟨hlt,fun j b hj hb=>?_⟩ (by omega);rcases C8 j i with h2|h2
     . exact hs j b h2 hb
     . have:j=i:=by omega
       subst this;rw [Z] at hb;cases hb;exact h
   . rw [F2 hs hi (fun b hb=>by rw [Z] at hb;cases hb;exact h)]
 . have hge:i=s.length:=by omega
   (repeat' (refine wP ?_<;>try simp only [B7 hlt,ABT hi,go_sem]));rw [F2 hs hi (fun b hb=>by rw [hge] at hb;simp at hb)]
def AIP (s:Str) (Y:AH) (hs:s≠[]):AR Tzp 176 [.d (.str s)] Y (fun v σ'=>v= .d (.int .i64 (JT s))/\σ'=Y):=by
 have hloop:∀(b:UInt8) (r:Str),(JT (b::r)=ABP b)->Run UU (fun v σ'=>v= .d (.int .i64 (JT (b::r)))/\σ'=Y) [.again eK,.blk 0,.code (.seq (.reg [⟨some 2,.mv (.c (.d (.int .i64 0))),none⟩] [2]) .ret)] (put 0 (.d (.str (b::r))) (put 3 (.d (.str tS)) (put 4 (.d (.int .i64 0)) U))) E Y:=by
  intro b r hbr;refine Run.BE ((fun (a0:AV) (a3:AV)=>fun (i:Nat)=>put 0 a0 (put 3 a3 (put 4 (.d (.int .i64 i)) U))) _ _) (fun _=>E) (fun _=>Y) (fun i=>i<=tS.length/\tS.any (b==·)=(tS.drop i).any (b==·)) (fun i=>tS.length - i) ?_ 0 ⟨by simp,rfl⟩;rintro i ⟨hi,hs⟩ ih;have hn:tS.length=13:=rfl;have h0:(b::r)[0]?=some b:=rfl;by_cases hlt:i < tS.length
  . obtain ⟨x,Z⟩:=Ai hlt;rw [By Z,List.any_cons] at hs;have hz:=D6 h0 .i64;rw [show ((0:Nat):Int)=0 from rfl] at hz;(repeat' (first|(refine wP ?_<;>try simp only [Ap hlt,D6 Z,hz,AWE,wsu i,go_sem])|(refine ⟨fun h=>?_,fun h=>?_⟩<;>first|(cases h;done)|try simp only [h])|fail))
    . rw [hbr,ABP,hs,h];rfl
    . exact ih (i+1) ⟨hlt,by rw [hs,h];rfl⟩ (by omega)
  . have hge:i=tS.length:=by omega
    (repeat' (refine wP ?_<;>try simp only [B7 hlt,go_sem]));rw [hbr,ABP,hs,hge];rfl
 match s,hs with
 |[b],_=>
  refine yC (by simp) ?_;rw [Bj];(repeat' (refine wP ?_<;>try simp only [AXB,go_sem]));exact Run.BB (hloop b [] rfl)
 |b::c::r,_=>
  refine yC (by simp) ?_;rw [Bj];(repeat' (first|((first|refine wP ?_|(refine Ae rfl (fun h=>?_) (fun h=>?_)<;>try (cases h;done))|fail)<;>try simp only [AXC,AXL,go_sem])|(refine ⟨fun h=>?_,fun h=>?_⟩<;>first|(cases h;done)|try simp only [h])|fail))
  all_goals (first|exact Run.BB (hloop b (c::r) (by simp only [JT,ASS, *];rfl))|(simp only [JT,ASS, *];rfl))
def LH:Str->Except Int (Int×Str)
 |[]=>.error 2
 |b::r=>
  if wJ b.toNat||o6 b.toNat then
   if decide (((b::r).takeWhile (FB K7)).length>24) then .error 9
                                  else if o6 b.toNat then .ok (2,(b::r).takeWhile (FB K7))
                                  else if AM9 ((b::r).takeWhile (FB K7)) then .ok (4,(b::r).takeWhile (FB K7))
                                  else .ok (1,(b::r).takeWhile (FB K7))
                                  else if Km b.toNat then
   if b==48&&decide (((b::r).takeWhile (FB Km)).length>1) then .error 2
                                         else if (Re ((b::r).takeWhile (FB Km)) 0).isSome then .ok (3,(b::r).takeWhile (FB Km))
                                         else .error 9
                                         else if (b::r).take (JT (b::r))==[] then .error 2
                                         else .ok (5,(b::r).take (JT (b::r)))
def AS6 (k:Int) (t:Str) (p:Int):AV:= .agg [.d (.int .i64 k),.d (.str t),.d (.int .i64 p)]
def AKZ (p:Int):Except Int (Int×Str)->AV
 | .error e=>.tup [AS6 0 [] 0,.d (.int .i64 e)]
 | .ok (k,t)=>.tup [AS6 k t p,.d (.int .i64 0)]
def G4 (p:α->Bool) (l:List α):(l.takeWhile p).length<=l.length:=(List.takeWhile_prefix p).length_le
def ATA (b:UInt8):((b.toNat:Int)==48)=(b==48):=AWE b 48
def Aa9 (n:Nat):decide ((24:Int) < (n:Int))=decide (n>24):=decide_eq_decide.2 (by omega)
def gt1 (n:Nat):decide ((1:Int) < (n:Int))=decide (n>1):=decide_eq_decide.2 (by omega)
def AMO:CT Tzp 297=true:=by kernel_rfl
def AQY:CT Tzp 299=true:=by kernel_rfl
def bD (src:Str) (i:Nat) (Y:AH) (hl:src.length<=1000000000) (hi:i < src.length):
 AR Tzp 271 [.d (.str src),.d (.int .i64 i)] Y (fun v σ'=>v=AKZ i (LH (src.drop i))/\σ'=Y):=by
 obtain ⟨b,hb⟩:=Ai hi;have hd:=By hb;rw [hd];have hld:(src.drop i).length<=1000000000:=by simp;omega
 rw [hd] at hld;have hw1:=G4 (FB K7) (b::src.drop (i+1));have hw2:=G4 (FB Km) (b::src.drop (i+1));have hs1:Yl (.d (.str src)) (some (.d (.int .i64 (i:Int)))) none=some (.d (.str (b::src.drop (i+1)))):=by rw [ASX (by omega),hd]
 refine AAO (by simp) ?_;rw [BD];generalize src.drop (i+1)=r at *;(repeat' (first|((first|refine wP ?_|refine AI.det (Yp _ _) ?_|refine AI.det (Yq _ _) ?_|refine AI.det (QE _ _) ?_|refine AI.det (lK _ _) ?_|refine AI.det (uD _ _ (by omega)) ?_|refine AI.det (w8 _ _ (by simp)) ?_|refine AI.det (WJ (c:=K7) AMO o0 _ _ hld) ?_|refine AI.det (WJ (c:=Km) AQY QE _ _ hld) ?_|(refine Ae rfl (fun h=>?_) (fun h=>?_)<;>try (cases h;done))|fail)<;>try simp only [D6 hb,hs1,ATA,Aa9,gt1,go_sem])|(refine ⟨fun h=>?_,fun h=>?_⟩<;>first|(cases h;done)|try simp only [h])|fail))
 all_goals (clear hw1 hw2 hs1 hd hld;first|(simp only [LH,AKZ,AS6, *,Bool.or_true,N7,L1,BU,Cy,Mk,A1,reduceIte];done)|simp_all [LH])
structure Tok where
 kind:Int
 text:Str
 pos:Nat
def Tok.enc (t:Tok):List DV:=[.int .i64 t.kind,.str t.text,.int .i64 t.pos]
def cmt (s:Str):Nat:=(s.takeWhile (fun c=>!(c==10))).length
def UO:Nat->Str->Nat->List Tok->List Tok×Nat×Int
 |0,_,_,_=>([],0,0)
 |n+1,rest,i,acc=>match rest with
  |[]=>(acc++[⟨6,[],i⟩],0,0)
  |b::r=>
   if AF5 b.toNat then UO n r (i+1) acc
                                else if b==35 then UO n ((b::r).drop (cmt (b::r))) (i+cmt (b::r)) acc
                                else match LH (b::r) with
    | .error e=>([],i,e)
    | .ok (k,t)=>UO n ((b::r).drop t.length) (i+t.length) (acc++[⟨k,t,i⟩])
def IN (s:Str):List Tok×Nat×Int:=if s.length>16384 then ([],0,9) else UO (s.length+1) s 0 []
def LJ (r:List Tok×Nat×Int):AV:= .tup [.d (.sl (r.1.map Tok.enc)),.d (.int .i64 r.2.1),.d (.int .i64 r.2.2)]
def Vb (b:UInt8):((b.toNat:Int)==35)=(b==35):=AWE b 35
def ABY (b:UInt8):((b.toNat:Int)==10)=(b==10):=AWE b 10
def AQW (n:Nat):decide ((16384:Int) < (n:Int))=decide (n>16384):=decide_eq_decide.2 (by omega)
def AEY {s:Str} {k:Int} {t:Str} (h:LH s= .ok (k,t)):1<=t.length/\t.length<=s.length:=by
 match s with
 |[]=>simp [LH] at h
 |b::r=>
  have h1:=G4 (FB K7) (b::r);have h2:=G4 (FB Km) (b::r);simp only [LH] at h;split at h
  . rename_i hlu
    have hw:FB K7 b=true:=by
     simp only [FB,K7];rw [hlu];rfl
    have h3:1<=((b::r).takeWhile (FB K7)).length:=by simp [hw]
    split at h
    . cases h
    . split at h
      . cases h;exact ⟨h3,h1⟩
      . split at h<;>(cases h;exact ⟨h3,h1⟩)
  . split at h
    . rename_i hdg;have h3:1<=((b::r).takeWhile (FB Km)).length:=by simp [FB,hdg]
      split at h
      . cases h
      . split at h<;>cases h;exact ⟨h3,h2⟩
    . split at h
      . cases h
      . rename_i hne;cases h;refine ⟨?_,List.length_take_le' _ _⟩;cases he:(b::r).take (JT (b::r)) with
        |nil=>rw [he] at hne;simp at hne
        |cons=>simp
def ASP {s:Str} {e:Int} (h:LH s= .error e):e=2\/e=9:=by
 match s with
 |[]=>simp only [LH,Except.error.injEq] at h;omega
 |b::r=>
  simp only [LH] at h
  repeat' split at h
  all_goals first|(cases h;simp;done)|cases h
def uC (s:Str) (Y:AH):AR Tzp 239 [.d (.str s)] Y (fun v σ'=>v=LJ (IN s)/\σ'=Y):=by
 refine vS (by simp) ?_;rw [Bj];(repeat' (first|(refine wP ?_<;>try simp only [AQW,go_sem])|(refine ⟨fun h=>?_,fun h=>?_⟩<;>first|(cases h;done)|try simp only [h])|fail))
 . have:s.length>16384:=by simpa using h
   simp [LJ,IN,this]
 . have hl:¬s.length>16384:=by simpa using h
   refine Run.BB ?_;refine Run.BE ((fun (a0:AV)=>fun (y:Nat×AV×AH)=>put 0 a0 (put 5 (y.2.1) (put 6 (.d (.int .i64 y.1)) U))) _) (fun _=>E) (fun y=>y.2.2) (fun y=>y.1<=s.length/\∃acc n,CC Y 348 3 (acc.map Tok.enc) y.2.1 y.2.2/\acc.length<=y.1/\s.length - y.1 < n/\IN s=UO n (s.drop y.1) y.1 acc) (fun y=>s.length - y.1) ?_ (0,.Ad,Y) ⟨by simp,[],s.length+1,CC.nil _ _ _,by simp,by simp,by simp [IN,hl]⟩;rintro ⟨i,v,σ1⟩ ⟨hi,acc,n,ho,hac,hn,hs⟩ ih;simp only at hi ho hac hn hs;obtain ⟨n,rfl⟩:∃m,n=m+1:=⟨n - 1,by omega⟩;by_cases hlt:i < s.length
   . obtain ⟨x,Z⟩:=Ai hlt;rw [By Z,UO] at hs;have hw1:=wsu i;have hsl:(x::s.drop (i+1)).length=s.length - i:=by simp;omega
     cases hb:AF5 x.toNat with
     |true=>
      rw [hb] at hs;(repeat' ((first|refine wP ?_|refine AI.det (LK _ _) ?_|fail)<;>try simp only [Ap hlt,D6 Z,hb,hw1,go_sem]));exact ih (i+1,v,σ1) ⟨hlt,acc,n,ho,by simp only;omega,by simp only;omega,hs⟩ (by simp only;omega)
     |false=>
      rw [hb,if_neg (by simp)] at hs;cases hc:(x==35) with
      |true=>
       rw [hc,if_pos rfl] at hs;(repeat' ((first|refine wP ?_|refine AI.det (LK _ _) ?_|fail)<;>try simp only [Ap hlt,D6 Z,Vb,hb,hc,go_sem]));refine Run.JP [0,5,6] ?_;simp only [go_sem];refine Run.BB ?_;refine Run.BE ((fun (a0:AV) (a5:AV)=>fun (j:Nat)=>put 0 a0 (put 5 a5 (put 6 (.d (.int .i64 j)) U))) _ _) (fun _=>E) (fun _=>σ1) (fun j=>i<=j/\j<=s.length/\∀q b,q < j - i->(s.drop i)[q]?=some b->(!(b==10))=true) (fun j=>s.length - j) ?_ i ⟨AS i,hi,by intro q b hq;omega⟩;rintro j ⟨hij,hj,hall⟩ ih2;have hw2:=wsu j;by_cases hjl:j < s.length
       . obtain ⟨z,hz⟩:=Ai hjl;have hz2:(s.drop i)[j - i]?=some z:=by rw [BN,show i+(j - i)=j by omega];exact hz
         cases h10:(z==10) with
         |true=>
          (repeat' (refine wP ?_<;>try simp only [Ap hjl,D6 hz,ABY,h10,go_sem]))
          have hk:cmt (x::s.drop (i+1))=j - i:=by
           rw [<- By Z,cmt,F2 hall (by simp;omega) (fun b hb=>by rw [hz2] at hb;cases hb;simp [h10])];simp;omega
          have hji:j≠i:=fun e=>by
           subst e;rw [Z] at hz;cases hz;simp only [beq_iff_eq] at hc h10;rw [hc] at h10;exact absurd h10 (by decide)
          rw [hk,<- By Z,Es,show i+(j - i)=j by omega] at hs;refine Run.JP [0,5,6] ?_;simp only [go_sem];exact ih (j,v,σ1) ⟨hj,acc,n,ho,by simp only;omega,by simp only;omega,hs⟩ (by simp only;omega)
         |false=>
          (repeat' (refine wP ?_<;>try simp only [Ap hjl,D6 hz,ABY,h10,hw2,go_sem]));refine ih2 (j+1) ⟨by omega,hjl,fun q b hq hb=>?_⟩ (by omega);rcases C8 q (j - i) with h2|h2
          . exact hall q b h2 hb
          . have:q=j - i:=by omega
            subst this;rw [hz2] at hb;cases hb;simp [h10]
       . have hje:j=s.length:=by omega
         have hk:cmt (x::s.drop (i+1))=j - i:=by
          rw [<- By Z,cmt,F2 hall (by simp;omega) (fun b hb=>by rw [BN,show i+(j - i)=j by omega,hje] at hb;simp at hb)];simp;omega
         rw [hk,<- By Z,Es,show i+(j - i)=j by omega,hje,N9] at hs;obtain ⟨n,rfl⟩:∃m,n=m+1:=⟨n - 1,by omega⟩;rw [UO] at hs;(repeat' ((first|refine wQ ?_|(refine Dh.own ho rfl (by simp) (by simp;omega) (by decide) (fun v2 σ2 ho2 hbk=>?_))|(refine Run.Bg JH ho2.le ?_)|refine wP ?_|fail)<;>try simp only [B7 hjl,go_sem]));simp only [ho2.BS,ho2.plain,go_sem];rw [hs];simp [LJ,Tok.enc]
      |false=>
       rw [hc,if_neg (by simp)] at hs;rcases hsc:LH (x::s.drop (i+1)) with e|⟨k,t⟩
       . rw [hsc] at hs;have he:=ASP hsc;have hne:(e != 0)=true:=by simp;omega
         (repeat' ((first|refine wQ ?_|(refine Run.Bg JH ho.le ?_)|refine wP ?_|refine AI.det (LK _ _) ?_|refine AI.det (bD _ _ _ (by omega) hlt) ?_|fail)<;>try simp only [Ap hlt,D6 Z,Vb,hb,hc,By Z,hsc,AKZ,AS6,hne,ho.CL,A1,go_sem]));rw [hs];rfl
       . rw [hsc] at hs;have hsn:=AEY hsc;rw [hsl] at hsn;(repeat' (first|refine ctQ rfl ?_|((first|refine rgQ mxQ ?_|refine cdQ ?_|(refine Dh.own ho rfl (by simp) (by simp;omega) (by decide) (fun v2 σ2 ho2 hbk=>?_))|refine Run.qP JH ?_|refine AI.det (LK _ _) ?_|refine AI.det (bD _ _ _ (by omega) hlt) ?_)<;>try simp only [Ap hlt,D6 Z,Vb,hb,hc,By Z,hsc,AKZ,AS6,ho.CL,A1,wrap_add (show i+t.length<=9000000000000000000 by omega),go_sem])|(refine ⟨fun h=>?_,fun h=>?_⟩<;>first|(cases h;done)|try simp only [h])|fail));refine ih (i+t.length,v2,σ2) ⟨?_,acc++[⟨k,t,i⟩],n,?_,?_,?_,?_⟩ ?_
         . simp only;omega
         . simpa [Tok.enc] using ho2
         . simp only [AY,Bm];omega
         . simp only;omega
         . rw [hs];simp only;rw [<- By Z,Es]
         . simp only;omega
   . have hge:i=s.length:=by omega
     rw [hge,N9,UO] at hs;(repeat' ((first|refine wQ ?_|(refine Dh.own ho rfl (by simp) (by simp;omega) (by decide) (fun v2 σ2 ho2 hbk=>?_))|(refine Run.Bg JH ho2.le ?_)|refine wP ?_|fail)<;>try simp only [B7 hlt,go_sem]));simp only [ho2.BS,ho2.plain,go_sem];rw [hs];simp [LJ,Tok.enc]
def AB4 (z:UInt8):FB K7 z=(wJ z.toNat||o6 z.toNat||Km z.toNat||((z.toNat:Int)==95)):=rfl
def sX (s:Str) (i:Nat) (x:UInt8) (Z:s[i]?=some x) (hw:FB K7 x=true) (hl:s.length<=16384) (σ1:AH) (a5 a7:AV) (K:AV->AH->Prop) (k:List CI)
 (hk:Run IQ K k (put 0 (.d (.str s)) (put 5 a5 (put 6 (.d (.int .i64 i)) (put 7 a7 (put 8 (.d (.int .i64 (((s.drop i).takeWhile (FB K7)).length:Nat))) U))))) E σ1):
 Run IQ K (.again M3::.blk 5::k) (put 0 (.d (.str s)) (put 5 a5 (put 6 (.d (.int .i64 i)) (put 7 a7 (put 8 (.d (.int .i64 1)) U))))) E σ1:=by
 refine Run.BE ((fun (a0:AV) (a5:AV) (a6:AV) (a7:AV)=>fun (m:Nat)=>put 0 a0 (put 5 a5 (put 6 a6 (put 7 a7 (put 8 (.d (.int .i64 m)) U))))) _ _ _ _) (fun _=>E) (fun _=>σ1) (fun m=>1<=m/\i+m<=s.length/\∀q b,q < m->(s.drop i)[q]?=some b->FB K7 b=true) (fun m=>s.length - m) ?_ 1 ⟨by omega,?_,?_⟩
 . rintro m ⟨h1,hm,hall⟩ ih;have hw0:=wrap_add (show i+m<=9000000000000000000 by omega);have hw1:=wsu m
   have hend:(∀b,(s.drop i)[m]?=some b->FB K7 b=false)->((s.drop i).takeWhile (FB K7)).length=m:=fun h=>by
    rw [F2 hall (by simp;omega) h];simp;omega
   by_cases hlt:i+m < s.length
   . obtain ⟨z,hz⟩:=Ai hlt;have hz2:(s.drop i)[m]?=some z:=by rw [BN];exact hz
     have hstep:FB K7 z=true->∀q b,q < m+1->(s.drop i)[q]?=some b->FB K7 b=true:=fun hc q b hq hb=>by
      rcases C8 q m with h2|h2
      . exact hall q b h2 hb
      . have:q=m:=by omega
        subst this;rw [hz2] at hb;cases hb;exact hc
     (repeat' (first|((first|refine wQ ?_|refine AI.det (KH _ _) ?_|refine AI.det (KI _ _) ?_|refine AI.det (IL _ _) ?_|(refine Ae rfl (fun h=>?_) (fun h=>?_)<;>try (cases h;done))|fail)<;>try simp only [hw0,hw1,Ap hlt,D6 hz,go_sem])|(refine ⟨fun h=>?_,fun h=>?_⟩<;>first|(cases h;done)|try simp only [h])|fail))
     all_goals first
      |exact ih (m+1) ⟨by omega,by omega,hstep (by simp_all [AB4])⟩ (by omega)
      |(rw [hend (fun b hb=>by rw [hz2] at hb;cases hb;simp_all [AB4])] at hk;refine Run.JP [0,5,6,7,8] ?_;simp only [go_sem];exact hk)
   . (repeat' (refine wQ ?_<;>try simp only [hw0,B7 hlt,go_sem]));rw [hend (fun b hb=>by rw [BN,BM (by omega)] at hb;cases hb)] at hk;refine Run.JP [0,5,6,7,8] ?_;simp only [go_sem];exact hk
 . have:=(AE.1 Z).1;omega
 . intro q b hq hb;have:q=0:=by omega
   subst this;rw [BN,CF,Z] at hb;cases hb;exact hw
def sY (s:Str) (i:Nat) (x:UInt8) (Z:s[i]?=some x) (hw:FB Km x=true) (hl:s.length<=16384) (σ1:AH) (a5 a7:AV) (K:AV->AH->Prop) (k:List CI)
 (hk:Run IQ K k (put 0 (.d (.str s)) (put 5 a5 (put 6 (.d (.int .i64 i)) (put 7 a7 (put 8 (.d (.int .i64 (((s.drop i).takeWhile (FB Km)).length:Nat))) U))))) E σ1):
 Run IQ K (.again Rm::.blk 7::k) (put 0 (.d (.str s)) (put 5 a5 (put 6 (.d (.int .i64 i)) (put 7 a7 (put 8 (.d (.int .i64 1)) U))))) E σ1:=by
 refine Run.BE ((fun (a0:AV) (a5:AV) (a6:AV) (a7:AV)=>fun (m:Nat)=>put 0 a0 (put 5 a5 (put 6 a6 (put 7 a7 (put 8 (.d (.int .i64 m)) U))))) _ _ _ _) (fun _=>E) (fun _=>σ1) (fun m=>1<=m/\i+m<=s.length/\∀q b,q < m->(s.drop i)[q]?=some b->FB Km b=true) (fun m=>s.length - m) ?_ 1 ⟨by omega,?_,?_⟩
 . rintro m ⟨h1,hm,hall⟩ ih;have hw0:=wrap_add (show i+m<=9000000000000000000 by omega);have hw1:=wsu m
   have hend:(∀b,(s.drop i)[m]?=some b->FB Km b=false)->((s.drop i).takeWhile (FB Km)).length=m:=fun h=>by
    rw [F2 hall (by simp;omega) h];simp;omega
   by_cases hlt:i+m < s.length
   . obtain ⟨z,hz⟩:=Ai hlt;have hz2:(s.drop i)[m]?=some z:=by rw [BN];exact hz
     have hstep:FB Km z=true->∀q b,q < m+1->(s.drop i)[q]?=some b->FB Km b=true:=fun hc q b hq hb=>by
      rcases C8 q m with h2|h2
      . exact hall q b h2 hb
      . have:q=m:=by omega
        subst this;rw [hz2] at hb;cases hb;exact hc
     cases hd:Km z.toNat with
     |true=>
      (repeat' ((first|refine wQ ?_|refine AI.det (IL _ _) ?_|fail)<;>try simp only [hw0,hw1,Ap hlt,D6 hz,hd,go_sem]));exact ih (m+1) ⟨by omega,by omega,hstep hd⟩ (by omega)
     |false=>
      (repeat' ((first|refine wQ ?_|refine AI.det (IL _ _) ?_|fail)<;>try simp only [hw0,Ap hlt,D6 hz,hd,go_sem]));rw [hend (fun b hb=>by rw [hz2] at hb;cases hb;exact hd)] at hk;refine Run.JP [0,5,6,7,8] ?_;simp only [go_sem];exact hk
   . (repeat' (refine wQ ?_<;>try simp only [hw0,B7 hlt,go_sem]));rw [hend (fun b hb=>by rw [BN,BM (by omega)] at hb;cases hb)] at hk;refine Run.JP [0,5,6,7,8] ?_;simp only [go_sem];exact hk
 . have:=(AE.1 Z).1;omega
 . intro q b hq hb;have:q=0:=by omega
   subst this;rw [BN,CF,Z] at hb;cases hb;exact hw
def AE6 {c:UInt8->Bool} (s:Str) (i:Nat) (hi:i<=s.length):Yl (.d (.str s)) (some (.d (.int .i64 (i:Int)))) (some (.d (.int .i64 ((i+((s.drop i).takeWhile c).length:Nat):Int))))=some (.d (.str ((s.drop i).takeWhile c))):=by
 have h:=G4 c (s.drop i);rw [Df] at h;rw [ASW (by omega) (by omega),List.drop_take,RJ];congr 3;exact (List.prefix_iff_eq_take.1 (List.takeWhile_prefix c)).symm
def ASY (s:Str) (i n:Nat) (hi:i<=s.length) (hn:n<=(s.drop i).length):Yl (.d (.str s)) (some (.d (.int .i64 (i:Int)))) (some (.d (.int .i64 ((i+n:Nat):Int))))=some (.d (.str ((s.drop i).take n))):=by
 rw [Df] at hn;rw [ASW (by omega) (by omega),List.drop_take,RJ]
def AE4:∀(b:UInt8) (r:Str),JT (b::r)<=(b::r).length
 |b,[]=>by simp only [JT,ABP];split<;>simp
 |b,c::r=>by
  simp only [JT];cases ASS b c
  . simp only [ABP,A1,if_false];split<;>simp
  . simp
def AEH (s:Str) (Y:AH):AR Tzp 121 [.d (.str s)] Y (fun v σ'=>v=LJ (IN s)/\σ'=Y):=by
 refine AHG (by simp) ?_;rw [Bj];by_cases hl:s.length>16384
 . (repeat' (refine wP ?_<;>try simp only [AQW,decide_eq_true hl,go_sem]));simp [LJ,IN,hl]
 . (repeat' (refine wQ ?_<;>try simp only [AQW,decide_eq_false hl,go_sem]));refine Run.BB ?_;refine Run.BE ((fun (a0:AV)=>fun (y:Nat×AV×AH)=>put 0 a0 (put 5 (y.2.1) (put 6 (.d (.int .i64 y.1)) U))) _) (fun _=>E) (fun y=>y.2.2) (fun y=>y.1<=s.length/\∃acc n,CC Y 258 3 (acc.map Tok.enc) y.2.1 y.2.2/\acc.length<=y.1/\s.length - y.1 < n/\IN s=UO n (s.drop y.1) y.1 acc) (fun y=>s.length - y.1) ?_ (0,.Ad,Y) ⟨by simp,[],s.length+1,CC.nil _ _ _,by simp,by simp,by simp [IN,hl]⟩;rintro ⟨i,v,σ1⟩ ⟨hi,acc,n,ho,hac,hn,hs⟩ ih;simp only at hi ho hac hn hs;obtain ⟨n,rfl⟩:∃m,n=m+1:=⟨n - 1,by omega⟩;by_cases hlt:i < s.length
   . obtain ⟨x,Z⟩:=Ai hlt;rw [By Z,UO] at hs;have hw1:=wsu i;have hsl:(x::s.drop (i+1)).length=s.length - i:=by simp;omega
     cases hb:AF5 x.toNat with
     |true=>
      rw [hb,if_pos rfl] at hs;(repeat' (first|((first|refine wQ ?_|(refine Ae rfl (fun h=>?_) (fun h=>?_)<;>try (cases h;done))|fail)<;>try simp only [Ap hlt,D6 Z,hw1,go_sem])|(refine ⟨fun h=>?_,fun h=>?_⟩<;>first|(cases h;done)|try simp only [h])|fail))
      all_goals first
       |exact ih (i+1,v,σ1) ⟨hlt,acc,n,ho,by simp only;omega,by simp only;omega,hs⟩ (by simp only;omega)
       |(exfalso;simp_all [AF5];done)
     |false=>
      rw [hb,if_neg (by simp)] at hs;simp only [AF5,CY] at hb;obtain ⟨⟨⟨h9,h10⟩,h13⟩,h32⟩:=hb;cases hc:(x==35) with
      |true=>
       rw [hc,if_pos rfl] at hs;(repeat' (refine wQ ?_<;>try simp only [Ap hlt,D6 Z,h9,h10,h13,h32,Vb,hc,go_sem]));refine Run.JP [0,5,6] ?_;simp only [go_sem];refine Run.BB ?_;refine Run.BE ((fun (a0:AV) (a5:AV)=>fun (j:Nat)=>put 0 a0 (put 5 a5 (put 6 (.d (.int .i64 j)) U))) _ _) (fun _=>E) (fun _=>σ1) (fun j=>i<=j/\j<=s.length/\∀q b,q < j - i->(s.drop i)[q]?=some b->(!(b==10))=true) (fun j=>s.length - j) ?_ i ⟨AS i,hi,by intro q b hq;omega⟩;rintro j ⟨hij,hj,hall⟩ ih2;have hw2:=wsu j
       have hend:(∀z,s[j]?=some z->(z==10)=true)->j≠i/\IN s=UO n (s.drop j) j acc:=fun hz=>by
        have hji:j≠i:=fun e=>by
         subst e;have h10:=hz x Z;simp only [beq_iff_eq] at hc h10;rw [hc] at h10;exact absurd h10 (by decide)
        have hk:cmt (x::s.drop (i+1))=j - i:=by
         rw [<- By Z,cmt,F2 hall (by simp;omega) (fun b hb=>by
          rw [BN,show i+(j - i)=j by omega] at hb;simp [hz b hb])]
         simp;omega
        rw [hk,<- By Z,Es,show i+(j - i)=j by omega] at hs;exact ⟨hji,hs⟩
       by_cases hjl:j < s.length
       . obtain ⟨z,hz⟩:=Ai hjl;have hz2:(s.drop i)[j - i]?=some z:=by rw [BN,show i+(j - i)=j by omega];exact hz
         cases h10:(z==10) with
         |true=>
          obtain ⟨hji,hs⟩:=hend (fun z' hz'=>by rw [hz] at hz';cases hz';exact h10);(repeat' (refine wQ ?_<;>try simp only [Ap hjl,D6 hz,ABY,bne,h10,go_sem]));refine Run.JP [0,5,6] ?_;simp only [go_sem];exact ih (j,v,σ1) ⟨hj,acc,n,ho,by simp only;omega,by simp only;omega,hs⟩ (by simp only;omega)
         |false=>
          (repeat' (refine wQ ?_<;>try simp only [Ap hjl,D6 hz,ABY,bne,h10,hw2,go_sem]));refine ih2 (j+1) ⟨by omega,hjl,fun q b hq hb=>?_⟩ (by omega);rcases C8 q (j - i) with h2|h2
          . exact hall q b h2 hb
          . have:q=j - i:=by omega
            subst this;rw [hz2] at hb;cases hb;simp [h10]
       . obtain ⟨hji,hs⟩:=hend (fun z hz=>by rw [BM (by omega)] at hz;cases hz);(repeat' (refine wQ ?_<;>try simp only [B7 hjl,go_sem]));refine Run.JP [0,5,6] ?_;simp only [go_sem];exact ih (j,v,σ1) ⟨hj,acc,n,ho,by simp only;omega,by simp only;omega,hs⟩ (by simp only;omega)
      |false=>
       rw [hc,if_neg (by simp)] at hs;have hld:s.drop i=x::s.drop (i+1):=By Z;have hss:Yl (.d (.str s)) (some (.d (.int .i64 (i:Int)))) none=some (.d (.str (x::s.drop (i+1)))):=by rw [ASX hi,hld]
       -- behind a token
       have next:∀(k:Int) (t:Str) (v2:AV) (σ2:AH),LH (x::s.drop (i+1))= .ok (k,t)->CC Y 258 3 (acc.map Tok.enc++[[.int .i64 k,.str t,.int .i64 i]]) v2 σ2->
        1<=t.length/\i+t.length<=s.length/\(i+t.length<=s.length/\∃acc n,CC Y 258 3 (acc.map Tok.enc) v2 σ2/\acc.length<=i+t.length/\s.length - (i+t.length) < n/\IN s=UO n (s.drop (i+t.length)) (i+t.length) acc):=fun k t v2 σ2 hsc ho2=>by
        have hsn:=AEY hsc;rw [hsl] at hsn;rw [hsc] at hs;refine ⟨hsn.1,by omega,by omega,acc++[⟨k,t,i⟩],n,by simpa [Tok.enc] using ho2,by simp only [AY,Bm];omega,by omega,?_⟩;rw [hs];simp only;rw [<- By Z,Es]
       have fail:∀e:Int,LH (x::s.drop (i+1))= .error e->IN s=([],i,e):=fun e he=>by rw [hs,he]
       have hwd:=AE6 (c:=FB K7) s i hi;have hdd:=AE6 (c:=FB Km) s i hi;have hsg:=ASY s i (JT (x::s.drop (i+1))) hi (by rw [hld];exact AE4 _ _);have hwl:=G4 (FB K7) (s.drop i);have hdl:=G4 (FB Km) (s.drop i);have hsl2:=AE4 x (s.drop (i+1));have hL1:=sX s i x Z;have hL2:=sY s i x Z;rw [hld] at hwd hdd hsg hwl hdl hL1 hL2;simp only [hsl] at hwl hdl hsl2;have hw0:=fun n (h:n<=s.length - i)=>wrap_add (show i+n<=9000000000000000000 by omega);have hap:∀(r:List DV),r.length=3->∀q∈[r],q.length=3:=fun r hr q hq=>by rw [A3] at hq;rw [hq];exact hr
       have gt24':=Aa9;have gt1':=gt1;by_cases hlu:(wJ x.toNat||o6 x.toNat)=true
       . have hwx:FB K7 x=true:=by rw [AB4,hlu];rfl
         have hsc:LH (x::s.drop (i+1))=if decide (((x::s.drop (i+1)).takeWhile (FB K7)).length>24) then .error 9
                                                                                 else if o6 x.toNat then .ok (2,(x::s.drop (i+1)).takeWhile (FB K7))
                                                                                 else if AM9 ((x::s.drop (i+1)).takeWhile (FB K7)) then .ok (4,(x::s.drop (i+1)).takeWhile (FB K7))
                                                                                 else .ok (1,(x::s.drop (i+1)).takeWhile (FB K7)):=by rw [LH,if_pos hlu]
         have hL:=fun K k=>hL1 hwx (by omega) σ1 v (.d (.int .u8 x.toNat)) K k;generalize ((x::s.drop (i+1)).takeWhile (FB K7))=w at hwd hwl hsc hL;have hwn:=hw0 w.length hwl;cases hup:o6 x.toNat<;>cases hlo:wJ x.toNat<;>rw [hup] at hsc<;>first|(simp only [hup,hlo,Bool.or_self,A1] at hlu;done)|skip
         all_goals (repeat' (first|refine ctQ rfl ?_|((first|refine rgQ mxQ ?_|refine cdQ ?_|(refine Run.BB ?_;refine Run.JP [0,5,6,7,8] ?_;simp only [go_sem];refine hL _ _ ?_)|(refine Dh.own ho rfl (by simp) (by simp;omega) (by decide) (fun v2 σ2 ho2 hbk=>?_))|(refine Run.Bg Jl ho.le ?_)|refine AI.det (KH _ _) ?_|refine AI.det (KI _ _) ?_|refine AI.det (wN _ _) ?_)<;>try simp only [hup,hlo,Ap hlt,D6 Z,h9,h10,h13,h32,Vb,hc,hwn,hwd,gt24',A1,go_sem])|(refine ⟨fun h=>?_,fun h=>?_⟩<;>first|(cases h;done)|try simp only [h])|fail))
         all_goals first
          |(obtain ⟨p1,p2,p3⟩:=next _ w _ _ (by rw [hsc];simp only [*,A1,reduceIte]) ho2;exact ih (i+w.length,_,_) p3 (by simp only;omega))
          |(rw [fail 9 (by rw [hsc];simp only [*,A1,reduceIte])];simp [LJ];done)
       . simp only [Bool.not_eq_true,CY] at hlu;have hnlu:¬(wJ x.toNat||o6 x.toNat)=true:=by simp [hlu]
         cases hdg:Km x.toNat with
         |true=>
          have hsc:LH (x::s.drop (i+1))=if x==48&&decide (((x::s.drop (i+1)).takeWhile (FB Km)).length>1) then .error 2
                                                                                         else if (Re ((x::s.drop (i+1)).takeWhile (FB Km)) 0).isSome then .ok (3,(x::s.drop (i+1)).takeWhile (FB Km))
                                                                                         else .error 9:=by rw [LH,if_neg hnlu,if_pos hdg]
          have hL:=fun K k=>hL2 hdg (by omega) σ1 v (.d (.int .u8 x.toNat)) K k;generalize ((x::s.drop (i+1)).takeWhile (FB Km))=w at hdd hdl hsc hL;have hwn:=hw0 w.length hdl;have hval:=AEI w σ1 (by omega);cases hv:Re w 0 with
          |some z=>
           rw [hv] at hval;(repeat' (first|refine ctQ rfl ?_|((first|refine rgQ mxQ ?_|refine cdQ ?_|(refine Run.BB ?_;refine Run.JP [0,5,6,7,8] ?_;simp only [go_sem];refine hL _ _ ?_)|(refine Dh.own ho rfl (by simp) (by simp;omega) (by decide) (fun v2 σ2 ho2 hbk=>?_))|(refine Run.Bg Jl ho.le ?_)|refine AI.det (KH _ _) ?_|refine AI.det (KI _ _) ?_|refine AI.det (IL _ _) ?_|refine AI.det (hval) ?_|(refine Ae rfl (fun h=>?_) (fun h=>?_)<;>try (cases h;done)))<;>try simp only [Ap hlt,D6 Z,h9,h10,h13,h32,Vb,hc,hwn,hdd,gt1',ATA,hlu.1,hlu.2,hdg,A1,go_sem])|(refine ⟨fun h=>?_,fun h=>?_⟩<;>first|(cases h;done)|try simp only [h])|fail))
           all_goals first
            |(obtain ⟨p1,p2,p3⟩:=next _ w _ _ (by rw [hsc];simp only [*,A1,reduceIte,BU,Cy,H6]) ho2;exact ih (i+w.length,_,_) p3 (by simp only;omega))
            |(rw [fail 2 (by rw [hsc];simp only [*,reduceIte,BU,H6])];simp [LJ];done)
          |none=>
           rw [hv] at hval;(repeat' (first|refine ctQ rfl ?_|((first|refine rgQ mxQ ?_|refine cdQ ?_|(refine Run.BB ?_;refine Run.JP [0,5,6,7,8] ?_;simp only [go_sem];refine hL _ _ ?_)|(refine Dh.own ho rfl (by simp) (by simp;omega) (by decide) (fun v2 σ2 ho2 hbk=>?_))|(refine Run.Bg Jl ho.le ?_)|refine AI.det (KH _ _) ?_|refine AI.det (KI _ _) ?_|refine AI.det (IL _ _) ?_|refine AI.det (hval) ?_|(refine Ae rfl (fun h=>?_) (fun h=>?_)<;>try (cases h;done)))<;>try simp only [Ap hlt,D6 Z,h9,h10,h13,h32,Vb,hc,hwn,hdd,gt1',ATA,hlu.1,hlu.2,hdg,A1,go_sem])|(refine ⟨fun h=>?_,fun h=>?_⟩<;>first|(cases h;done)|try simp only [h])|fail))
           all_goals first
            |(rw [fail 2 (by rw [hsc];simp only [*,A1,reduceIte,BU,Cy,H5])];simp [LJ];done)
            |(rw [fail 9 (by rw [hsc];simp only [*,A1,reduceIte,BU,Cy,H5])];simp [LJ];done)
         |false=>
          have hsc:LH (x::s.drop (i+1))=if (x::s.drop (i+1)).take (JT (x::s.drop (i+1)))==[] then .error 2 else .ok (5,(x::s.drop (i+1)).take (JT (x::s.drop (i+1)))):=by rw [LH,if_neg hnlu,if_neg (by simp [hdg])]
          have hsk:=AIP (x::s.drop (i+1)) σ1 (by simp);have hwn:=hw0 (JT (x::s.drop (i+1))) hsl2;have htl:((x::s.drop (i+1)).take (JT (x::s.drop (i+1)))).length=JT (x::s.drop (i+1)):=by rw [B5,hsl];omega
          generalize JT (x::s.drop (i+1))=m at hsc hsk hwn hsg hsl2 htl;generalize ((x::s.drop (i+1)).take m)=w at hsc hsg htl
          have hz:((m:Int)==0)=(w==[]):=by
           rw [Ak];simp only [beq_iff_eq];rw [<- List.length_eq_zero_iff,htl];omega
          cases hw:(w==[]) with
          |true=>
           (repeat' (first|refine ctQ rfl ?_|((first|refine rgQ mxQ ?_|refine cdQ ?_|(refine Run.Bg Jl ho.le ?_)|refine AI.det (KH _ _) ?_|refine AI.det (KI _ _) ?_|refine AI.det (IL _ _) ?_|refine AI.det (hsk) ?_)<;>try simp only [Ap hlt,D6 Z,h9,h10,h13,h32,Vb,hc,hss,hlu.1,hlu.2,hdg,hz,hw,A1,go_sem])|fail));rw [fail 2 (by rw [hsc,if_pos hw])];simp [LJ]
          |false=>
           (repeat' (first|refine ctQ rfl ?_|((first|refine rgQ mxQ ?_|refine cdQ ?_|(refine Dh.own ho rfl (by simp) (by simp;omega) (by decide) (fun v2 σ2 ho2 hbk=>?_))|(refine Run.Bg Jl ho.le ?_)|refine AI.det (KH _ _) ?_|refine AI.det (KI _ _) ?_|refine AI.det (IL _ _) ?_|refine AI.det (hsk) ?_)<;>try simp only [Ap hlt,D6 Z,h9,h10,h13,h32,Vb,hc,hss,hwn,hsg,hlu.1,hlu.2,hdg,hz,hw,A1,go_sem])|fail));obtain ⟨p1,p2,p3⟩:=next 5 w _ _ (by rw [hsc,if_neg (by simp [hw])]) ‹_›
           rw [htl] at p1 p2 p3;exact ih (i+m,_,_) p3 (by simp only;omega)
   . have hge:i=s.length:=by omega
     rw [hge,N9,UO] at hs;(repeat' (first|refine ctQ rfl ?_|((first|refine rgQ mxQ ?_|refine cdQ ?_|(refine Dh.own ho rfl (by simp) (by simp;omega) (by decide) (fun v2 σ2 ho2 hbk=>?_))|(refine Run.Bg Jl ho2.le ?_))<;>try simp only [B7 hlt,go_sem])|fail));simp only [ho2.BS,ho2.plain,go_sem];rw [hs];simp [LJ,Tok.enc]
def J4 (k:Int) (s:Str):Bool:=
 (IN s).2.2==0&&((IN s).1.length==2&&(match (IN s).1 with|[]=>false|a::_=>a.kind==k&&a.text==s))
def FQ (s:Str):Bool:=J4 1 s
def HA (s:Str):Bool:=J4 2 s
def XS (s:Str):Bool:=s==[]||FQ s
def gU (k:Int) (n:Str) (len:Nat):Bool:=
 if k=1\/k=2\/k=3 then n==[]&&decide (len=0)
                                     else if k=4 then FQ n&&decide (len=0)
                                     else if k=5 then HA n&&decide (len<=6)
                                     else if k=6 then n==[]&&decide (2<=len)&&decide (len<=6)
                                     else if k=7\/k=8 then n==[]&&decide (len=1)
                                     else if k=9 then n==[]&&decide (1<=len)&&decide (len<=7)
                                     else false
def DS:Nat->TE->Bool
 |0,_=>false
 |d+1,.mk k n l=>gU k n l.length&&l.all (DS d)
def nJ (c:CE):Bool:=HA c.name&&decide (c.args.length<=6)&&c.args.all (DS 40)
def OK (d:DE):Bool:=HA d.name&&decide (d.vars.length<=6)&&d.vars.all FQ&&decide (1<=d.cons.length)&&decide (d.cons.length<=8)&&d.cons.all nJ
def eA:Al->Bool
 | .mk c vs _=>HA c&&decide (vs.length<=6)&&vs.all XS
def nmB (o:Int) (n:Str):Bool:=
 if o=4 then FQ n else if o=6 then HA n else if o=7\/o=17 then XS n else n==[]
def nuB (o:Int) (u:Int):Bool:=
 if o=2 then decide (0<=u)&&decide (u<=1) else if o=3 then decide (-1000000<=u)&&decide (u<=1000000) else if o=13 then decide (1<=u)&&decide (u<=8)
                                                                                                                                          else if o=14 then decide (1<=u)&&decide (u<=7) else if o=15 then decide (-1000<=u)&&decide (u<=1000) else u==0
def nsB (o:Int) (ns:List Str):Bool:=
 if o=8 then decide (2<=ns.length)&&decide (ns.length<=6)&&ns.all XS else if o=11 then decide (ns.length<=6)&&ns.all FQ else decide (ns.length=0)
def asB (o:Int) (al:List Al):Bool:=
 if o=10 then decide (1<=al.length)&&al.all eA else decide (al.length=0)
def aZ (u:Int):Nat:=if u=1\/u=2\/u=7 then 2 else if u=3 then 3 else if u=4\/u=5\/u=6 then 1 else 0
def nkB (o u:Int) (nk:Nat):Bool:=
 if o=1\/o=2\/o=3\/o=4\/o=15 then decide (nk=0)
                                       else if o=5 then decide (2<=nk)&&decide (nk<=6)
                                       else if o=6 then decide (nk<=6)
                                       else if o=7\/o=8\/o=13\/o=17 then decide (nk=2)
                                       else if o=9 then decide (nk=3)
                                       else if o=10\/o=11\/o=16 then decide (nk=1)
                                       else if o=12 then decide (1<=nk)&&decide (nk<=7)
                                       else if o=14 then decide (nk=aZ u)
                                       else false
def R4 (o:Int) (n:Str) (u:Int) (ns:List Str) (nk:Nat) (al:List Al):Bool:=
 nmB o n&&nuB o u&&nsB o ns&&asB o al&&nkB o u nk
def vEx:Nat->Nat->Ex->Option Nat
 |0,_,_=>none
 |d+1,q,.mk o n u ns ks al=>
  match q with
  |0=>none
  |q+1=>if R4 o n u ns ks.length al then (ks.foldlM (fun q e=>vEx d q e) q).bind fun q=>al.foldlM (fun q a=>match a with| .mk _ _ b=>vEx d q b) q else none
def AQZ (f:FE):Bool:=FQ f.name&&decide (f.params.length<=6)&&f.params.all FQ
def Vc (q:Nat) (f:FE):Option Nat:=if AQZ f then vEx 40 q f.body else none
def Eb (p:Pg):Bool:=decide (p.data.length<=12)&&decide (p.Dz.length<=24)&&p.data.all OK&&(p.Dz.foldlM Vc 600).isSome
def DP:List Str->Str->Option Nat
 |[],_=>none
 |x::l,s=>if x==s then some 0 else (DP l s).map (·+1)
def HQ (o:Option Nat):Int:=match o with|some i=>i|none=>-1
def DC:List Str->Bool
 |[]=>false
 |x::l=>(!(x==[])&&l.contains x)||DC l
def Fy:List TE->List Str->Bool
 |[],[]=>true
 | .mk k n _::l,v::vs=>(k==4&&n==v)&&Fy l vs
 |_,_=>false
mutual
def Io (ds:List (Str×Nat)) (vars:List Str):Bool->TE->Except Int Ty
 |whole,.mk k n l=>
  if k=4 then
   match DP vars n with
   |none=>.error 3
   |some i=>(DA ds vars l).map (Ty.mk k i)
                                 else if k=5 then
   match DP (ds.map (·.1)) n with
   |none=>.error 3
   |some i=>
    if l.length≠(ds.getD i ([],0)).2 then .error 5
                             else if i+1=ds.length/\¬(whole=true/\Fy l vars=true) then .error 7
                             else (DA ds vars l).map (Ty.mk k i)
                             else (DA ds vars l).map (Ty.mk k 0)
def DA (ds:List (Str×Nat)) (vars:List Str):List TE->Except Int (List Ty)
 |[]=>.ok []
 |t::l=>match Io ds vars false t with
  | .error e=>.error e
  | .ok u=>(DA ds vars l).map (u::·)
end
def EB (ds:List (Str×Nat)) (vars:List Str):List TE->Except Int (List Ty)
 |[]=>.ok []
 |t::l=>match Io ds vars true t with
  | .error e=>.error e
  | .ok u=>(EB ds vars l).map (u::·)
def FX (ds:List (Str×Nat)) (vars:List Str):List Str->List CE->Except Int (List Con)
 |_,[]=>.ok []
 |used,c::l=>
  if used.contains c.name then .error 4
   else match EB ds vars c.args with
  | .error e=>.error e
  | .ok ts=>(FX ds vars (used++[c.name]) l).map (⟨c.name,ts⟩::·)
def OL (ds:List (Str×Nat)) (used:List Str) (d:DE):Except Int Dat:=
 if (ds.map (·.1)).contains d.name||DC d.vars then .error 4
               else (FX (ds++[(d.name,d.vars.length)]) d.vars used d.cons).map (⟨d.name,d.vars.length,·⟩)
def C1 (l:List DE):List (Str×Nat):=l.map fun d=>(d.name,d.vars.length)
def KT (l:List DE):List Str:=l.flatMap fun d=>d.cons.map (·.name)
def DZ:List DE->List DE->Except (Int×Nat) (List Dat)
 |_,[]=>.ok []
 |done,d::l=>match OL (C1 done) (KT done) d with
  | .error e=>.error (e,done.length)
  | .ok x=>(DZ (done++[d]) l).map (x::·)
abbrev Dg:=Int×Int×Int
def Fo (p:Pg):Except Dg (List Dat):=
 if Eb p then (match DZ [] p.data with| .error (e,i)=>.error (e,-1,i)| .ok l=>.ok l) else .error (1,-1,0)
def Ex.op:Ex->Int| .mk o _ _ _ _ _=>o
def Ex.num:Ex->Int| .mk _ _ u _ _ _=>u
def Ex.name:Ex->Str| .mk _ n _ _ _ _=>n
def Ex.names:Ex->List Str| .mk _ _ _ ns _ _=>ns
def Ex.kids:Ex->List Ex| .mk _ _ _ _ ks _=>ks
def Ex.alts:Ex->List Al| .mk _ _ _ _ _ al=>al
def Al.con:Al->Str| .mk c _ _=>c
def Al.vars:Al->List Str| .mk _ vs _=>vs
def Al.body:Al->Ex| .mk _ _ b=>b
def Qg (o:Int) (n:Str) (ns:List Str) (sc:List Str) (i:Nat):List Str:=
 if (o=7\/o=17)/\i=1 then (if n=[] then sc else sc++[n])
                          else if (o=8/\i=1)\/o=11 then sc++ns else sc
mutual
def Ca:Ex->List Str->List (Ex×List Str)
 | .mk o n u ns ks al,sc=>(.mk o n u ns ks al,sc)::(Cr o n ns sc 0 ks++Ed sc al)
def Cr (o:Int) (n:Str) (ns sc:List Str):Nat->List Ex->List (Ex×List Str)
 |_,[]=>[]
 |i,k::l=>Ca k (Qg o n ns sc i)++Cr o n ns sc (i+1) l
def oH:Al->List Str->List (Ex×List Str)
 | .mk _ vs b,sc=>Ca b (sc++vs)
def Ed (sc:List Str):List Al->List (Ex×List Str)
 |[]=>[]
 |a::l=>oH a sc++Ed sc l
end
def JC:List Con->Str->Option Nat
 |[],_=>none
 |c::l,s=>if c.name==s then some 0 else (JC l s).map (·+1)
def El:List Dat->Str->Option (Nat×Nat)
 |[],_=>none
 |d::l,s=>match JC d.cons s with
  |some k=>some (0,k)
  |none=>(El l s).map fun x=>(x.1+1,x.2)
def arity (dt:List Dat) (x:Nat×Nat):Nat:=match dt[x.1]? with|some d=>(match d.cons[x.2]? with|some c=>c.args.length|none=>0)|none=>0
def NU (dt:List Dat) (d:Nat):Nat:=match dt[d]? with|some x=>x.cons.length|none=>0
def Dd (dt:List Dat):List Al->Except Int (List (Nat×Nat))
 |[]=>.ok []
 | .mk c vs _::l=>match El dt c with
  |none=>.error 3
  |some x=>if vs.length≠arity dt x then .error 5 else if DC vs then .error 4 else (Dd dt l).map (x::·)
def qW (dt:List Dat):List (Nat×Nat)->Bool
 |[]=>true
 |x::l=>(x::l).all (fun y=>y.1==x.1)&&decide ((x::l).Nodup)&&decide ((x::l).length=NU dt x.1)
def XN (dt:List Dat) (l:List Al):Int:=match Dd dt l with| .error e=>e| .ok xs=>if qW dt xs then 0 else 7
def DY (fs:List FE):List Str:=fs.map (·.name)
def QF (fs:List FE) (dt:List Dat) (e:Ex) (sc:List Str):Int:=
 if e.op=4 then (if !sc.contains e.name&&(DP (DY fs) e.name).isNone then 3 else 0)
                                               else if e.op=6 then
  match El dt e.name with
  |none=>3
  |some x=>if e.kids.length≠arity dt x then 5 else 0
            else if e.op=8\/e.op=11 then (if DC e.names then 4 else 0)
            else if e.op=10 then XN dt e.alts
            else if e.op=12 then
  match e.kids.head? with
  |none=>0
  |some h=>if h.op=4&& !sc.contains h.name then
   (match DP (DY fs) h.name with
   |none=>0
   |some f=>match fs[f]? with
    |some g=>if g.params.length+1≠e.kids.length then 5 else 0
    |none=>0) else 0
            else 0
def iZ (vis:Ex->List Str->Int):List (Ex×List Str)->Option (Nat×Int)
 |[]=>none
 |x::l=>if vis x.1 x.2=0 then (iZ vis l).map (fun y=>(y.1+1,y.2)) else some (0,vis x.1 x.2)
def z8 (fs:List FE) (dt:List Dat) (i:Nat) (f:FE):Option Dg:=
 if DP (DY fs) f.name≠some i\/DC f.params=true then some (4,i,0)
                                                          else match iZ (QF fs dt) (Ca f.body f.params) with
  |some (k,c)=>some (c,i,k)
  |none=>none
def RO (fs:List FE) (dt:List Dat):Nat->List FE->Dg
 |_,[]=>(0,0,0)
 |i,f::l=>match z8 fs dt i f with
  |some d=>d
  |none=>RO fs dt (i+1) l
def Q0 (p:Pg):Dg:=match Fo p with| .error d=>d| .ok dt=>RO p.Dz dt 0 p.Dz
def MQ (fs:List FE) (g:Nat) (x:Ex×List Str):Bool:=x.1.op==4&&(!x.2.contains x.1.name&&DP (DY fs) x.1.name==some g)
def aQ (fs:List FE) (f:FE):List Nat:=(Av fs.length).filter fun g=>(Ca f.body f.params).any (MQ fs g)
def Ii (p:Pg):List (List Nat):=if (Q0 p).1=0 then p.Dz.map (aQ p.Dz) else []
def Dj {p:α->Bool} {l:List α} {x:α} (h:∀y∈l.take i,p y=false) (Z:l[i]?=some x) (hp:p x=true):l.findIdx? p=some i:=by
 rw [AO7];obtain ⟨hl,he⟩:=AE.1 Z;refine ⟨hl,by rw [he];exact hp,fun j hj=>?_⟩;rw [h (l[j]'(by omega)) (List.mem_take_iff_getElem.2 ⟨j,by omega,rfl⟩)];simp
def Dk {p:α->Bool} {l:List α} (h:∀y∈l,p y=false):l.findIdx? p=none:=by
 rw [List.findIdx?_eq_none_iff];exact h
def F7 {p:α->Bool} {l:List α} {x:α} (h:∀y∈l.take i,p y=false) (Z:l[i]?=some x) (hp:p x=false):∀y∈l.take (i+1),p y=false:=by
 intro y hy;rw [A5 Z] at hy;rcases AZ.1 hy with hy|hy
 . exact h y hy
 . simp only [A3] at hy;subst hy;exact hp
def Ol (o:Option Nat):decide (0<=HQ o)=o.isSome:=by
 cases o<;>simp [HQ]
def HH (p:α->Bool) (l:List α):(l.findIdx? p).isSome=l.any p:=by
 rw [List.findIdx?_isSome]
def ZU (hb:CT Tzp fid=true) (hcp:caps.all AV.BS=true) (p:Str->Bool) (l:List Str) (Y:AH) (hf:∀x∈l,AR Tzp fid ((.d (.str x))::caps) Y (fun v σ'=>v= .d (.bool (p x))/\σ'=Y)):
 AR Tzp 240 [.d (.sl (l.map BX)),.fn fid [] caps] Y (fun v σ'=>v= .d (.int .i64 (HQ (l.findIdx? p)))/\σ'=Y):=by
 refine Qb (by simp) ?_;rw [BD];refine Run.slot 0 (fun hb0=>?_);simp only [DR,if_true,AV.Ev,AA] at hb0;(repeat' (refine wQ ?_<;>try simp only [AA,go_sem]));refine Run.BB ?_;refine Run.BE ((fun (a0:AV) (a1:AV) (a7:AV)=>fun (i:Nat)=>put 0 a0 (put 1 a1 (put 7 a7 (put 8 (.d (.int .i64 i)) U)))) _ _ _) (fun _=>E) (fun _=>Y) (fun i=>i<=l.length/\∀x∈l.take i,p x=false) (fun i=>l.length - i) ?_ 0 ⟨by simp,by simp⟩;rintro i ⟨hi,hno⟩ ih;by_cases hlt:i < l.length
 . obtain ⟨x,Z⟩:=Ai hlt;have he:=BI (enc:=BX) Z;have hw1:=wsu i;have hc:=hf x (AD Z);simp only [BX] at he;cases hp:p x with
   |true=>
    rw [hp] at hc;(repeat' ((first|refine wP ?_|(refine ⟨fid,[],caps,rfl,hb,AI.det hc ?_ (by simp [hcp,MR])⟩)|fail)<;>try simp only [Ap hlt,he,go_sem]));rw [Dj hno Z hp];rfl
   |false=>
    rw [hp] at hc;(repeat' ((first|refine wQ ?_|(refine ⟨fid,[],caps,rfl,hb,AI.det hc ?_ (by simp [hcp,MR])⟩)|fail)<;>try simp only [Ap hlt,he,hw1,go_sem]));exact ih (i+1) ⟨by omega,F7 hno Z hp⟩ (by omega)
 . (repeat' (refine wP ?_<;>try simp only [B7 hlt,go_sem]));rw [AP (by omega)] at hno;rw [Dk hno];rfl
def U1 (hb:CT Tzp fid=true) (hcp:caps.all AV.BS=true) (p:Str->Bool) (l:List Str) (Y:AH) (hf:∀x∈l,AR Tzp fid ((.d (.str x))::caps) Y (fun v σ'=>v= .d (.bool (p x))/\σ'=Y)):
 AR Tzp 184 [.d (.sl (l.map BX)),.fn fid [] caps] Y (fun v σ'=>v= .d (.bool (l.any p))/\σ'=Y):=by
 refine Nq (by simp) ?_;rw [BD];(repeat' ((first|refine wP ?_|refine AI.det (ZU hb hcp p l Y hf) ?_|fail)<;>try simp only [Ol,HH,go_sem]))
def mU (hb:CT Tzp fid=true) (hcp:caps.all AV.BS=true) (x:Str) (b:Bool) (j:Nat) (Y:AH) (hj:Y.blk j=some [.fn fid [] caps]) (hf:AR Tzp fid ((.d (.str x))::caps) Y (fun v σ'=>v= .d (.bool b)/\σ'=Y)):
 AR Tzp 185 [(.d (.str x)),.gp j 0] Y (fun v σ'=>v= .d (.bool (!b))/\σ'=Y):=by
 refine Wb (by simp) ?_;rw [BD];(repeat' ((first|refine wP ?_|(refine ⟨fid,[],caps,rfl,hb,AI.det hf ?_ (by simp [hcp,MR])⟩)|fail)<;>try simp only [hj,go_sem]))
def Iw (hb:CT Tzp fid=true) (hcp:caps.all AV.BS=true) (p:Str->Bool) (l:List Str) (Y:AH) (hf:∀x∈l,∀σ1,Y.le σ1->AR Tzp fid ((.d (.str x))::caps) σ1 (fun v σ'=>v= .d (.bool (p x))/\σ'=σ1)):
 AR Tzp 125 [.d (.sl (l.map BX)),.fn fid [] caps] Y (fun v σ'=>v= .d (.bool (l.all p))/\σ'=Y):=by
 refine Zl (by simp) ?_;rw [BD];(repeat' (refine wQ ?_<;>try simp only [go_sem]));intro j hj;have hle:=CK (cs:=[.fn fid [] caps]) hj;(repeat' ((first|refine wQ ?_|(refine Run.Bg ON (σ2:=Y) hle ?_)|refine AI.det (U1 (by kernel_rfl) rfl (fun x=>!p x) l _ (fun x Z=>mU hb hcp x (p x) j _ (by simp only [AJ,if_true]) (hf x Z _ hle))) ?_|fail)<;>try simp only [go_sem]));simp [RE]
def QL (hb:CT Tzp fid=true) (hcp:caps.all AV.BS=true) (p:TE->Bool) (l:List TE) (Y:AH) (hf:∀x∈l,AR Tzp fid ((teA x)::caps) Y (fun v σ'=>v= .d (.bool (p x))/\σ'=Y)):
 AR Tzp 269 [.d (.sl (l.map TE.enc)),.fn fid [] caps] Y (fun v σ'=>v= .d (.int .i64 (HQ (l.findIdx? p)))/\σ'=Y):=by
 refine L8 (by simp) ?_;rw [BD];refine Run.slot 0 (fun hb0=>?_);simp only [DR,if_true,AV.Ev,AA] at hb0;(repeat' (refine wQ ?_<;>try simp only [AA,go_sem]));refine Run.BB ?_;refine Run.BE ((fun (a0:AV) (a1:AV) (a7:AV)=>fun (i:Nat)=>put 0 a0 (put 1 a1 (put 7 a7 (put 8 (.d (.int .i64 i)) U)))) _ _ _) (fun _=>E) (fun _=>Y) (fun i=>i<=l.length/\∀x∈l.take i,p x=false) (fun i=>l.length - i) ?_ 0 ⟨by simp,by simp⟩;rintro i ⟨hi,hno⟩ ih;by_cases hlt:i < l.length
 . obtain ⟨x,Z⟩:=Ai hlt;have he:=BI (enc:=TE.enc) Z;have hw1:=wsu i;have hc:=hf x (AD Z);obtain ⟨k,n,al⟩:=x;simp only [TE.A4,teA,AF,AN] at he hc;cases hp:p (.mk k n al) with
   |true=>
    rw [hp] at hc;(repeat' ((first|refine wP ?_|(refine ⟨fid,[],caps,rfl,hb,AI.det hc ?_ (by simp [hcp,Dm])⟩)|fail)<;>try simp only [Ap hlt,he,go_sem]));rw [Dj hno Z hp];rfl
   |false=>
    rw [hp] at hc;(repeat' ((first|refine wQ ?_|(refine ⟨fid,[],caps,rfl,hb,AI.det hc ?_ (by simp [hcp,Dm])⟩)|fail)<;>try simp only [Ap hlt,he,hw1,go_sem]));exact ih (i+1) ⟨by omega,F7 hno Z hp⟩ (by omega)
 . (repeat' (refine wP ?_<;>try simp only [B7 hlt,go_sem]));rw [AP (by omega)] at hno;rw [Dk hno];rfl
def N8 (hb:CT Tzp fid=true) (hcp:caps.all AV.BS=true) (p:TE->Bool) (l:List TE) (Y:AH) (hf:∀x∈l,AR Tzp fid ((teA x)::caps) Y (fun v σ'=>v= .d (.bool (p x))/\σ'=Y)):
 AR Tzp 236 [.d (.sl (l.map TE.enc)),.fn fid [] caps] Y (fun v σ'=>v= .d (.bool (l.any p))/\σ'=Y):=by
 refine Jp (by simp) ?_;rw [BD];(repeat' ((first|refine wP ?_|refine AI.det (QL hb hcp p l Y hf) ?_|fail)<;>try simp only [Ol,HH,go_sem]))
def WL (hb:CT Tzp fid=true) (hcp:caps.all AV.BS=true) (x:TE) (b:Bool) (j:Nat) (Y:AH) (hj:Y.blk j=some [.fn fid [] caps]) (hf:AR Tzp fid ((teA x)::caps) Y (fun v σ'=>v= .d (.bool b)/\σ'=Y)):
 AR Tzp 237 [(teA x),.gp j 0] Y (fun v σ'=>v= .d (.bool (!b))/\σ'=Y):=by
 refine Ok (by simp) ?_;rw [BD];obtain ⟨k,n,al⟩:=x;simp only [TE.A4,teA,AF,AN] at hf ⊢;(repeat' ((first|refine wP ?_|(refine ⟨fid,[],caps,rfl,hb,AI.det hf ?_ (by simp [hcp,Dm])⟩)|fail)<;>try simp only [hj,go_sem]))
def OH (hb:CT Tzp fid=true) (hcp:caps.all AV.BS=true) (p:TE->Bool) (l:List TE) (Y:AH) (hf:∀x∈l,∀σ1,Y.le σ1->AR Tzp fid ((teA x)::caps) σ1 (fun v σ'=>v= .d (.bool (p x))/\σ'=σ1)):
 AR Tzp 180 [.d (.sl (l.map TE.enc)),.fn fid [] caps] Y (fun v σ'=>v= .d (.bool (l.all p))/\σ'=Y):=by
 refine Qc (by simp) ?_;rw [BD];(repeat' (refine wQ ?_<;>try simp only [go_sem]));intro j hj;have hle:=CK (cs:=[.fn fid [] caps]) hj;(repeat' ((first|refine wQ ?_|(refine Run.Bg I8 (σ2:=Y) hle ?_)|refine AI.det (N8 (by kernel_rfl) rfl (fun x=>!p x) l _ (fun x Z=>WL hb hcp x (p x) j _ (by simp only [AJ,if_true]) (hf x Z _ hle))) ?_|fail)<;>try simp only [go_sem]));simp [RE]
def Ri (hb:CT Tzp fid=true) (hcp:caps.all AV.BS=true) (p:CE->Bool) (l:List CE) (Y:AH) (hf:∀x∈l,AR Tzp fid ((ceA x)::caps) Y (fun v σ'=>v= .d (.bool (p x))/\σ'=Y)):
 AR Tzp 268 [.d (.sl (l.map CE.enc)),.fn fid [] caps] Y (fun v σ'=>v= .d (.int .i64 (HQ (l.findIdx? p)))/\σ'=Y):=by
 refine MJ (by simp) ?_;rw [BD];refine Run.slot 0 (fun hb0=>?_);simp only [DR,if_true,AV.Ev,AA] at hb0;(repeat' (refine wQ ?_<;>try simp only [AA,go_sem]));refine Run.BB ?_;refine Run.BE ((fun (a0:AV) (a1:AV) (a7:AV)=>fun (i:Nat)=>put 0 a0 (put 1 a1 (put 7 a7 (put 8 (.d (.int .i64 i)) U)))) _ _ _) (fun _=>E) (fun _=>Y) (fun i=>i<=l.length/\∀x∈l.take i,p x=false) (fun i=>l.length - i) ?_ 0 ⟨by simp,by simp⟩;rintro i ⟨hi,hno⟩ ih;by_cases hlt:i < l.length
 . obtain ⟨x,Z⟩:=Ai hlt;have he:=BI (enc:=CE.enc) Z;have hw1:=wsu i;have hc:=hf x (AD Z);obtain ⟨nm,ar⟩:=x;simp only [CE.enc,ceA,AF,AN] at he hc;cases hp:p (⟨nm,ar⟩) with
   |true=>
    rw [hp] at hc;(repeat' ((first|refine wP ?_|(refine ⟨fid,[],caps,rfl,hb,AI.det hc ?_ (by simp [hcp,Dm])⟩)|fail)<;>try simp only [Ap hlt,he,go_sem]));rw [Dj hno Z hp];rfl
   |false=>
    rw [hp] at hc;(repeat' ((first|refine wQ ?_|(refine ⟨fid,[],caps,rfl,hb,AI.det hc ?_ (by simp [hcp,Dm])⟩)|fail)<;>try simp only [Ap hlt,he,hw1,go_sem]));exact ih (i+1) ⟨by omega,F7 hno Z hp⟩ (by omega)
 . (repeat' (refine wP ?_<;>try simp only [B7 hlt,go_sem]));rw [AP (by omega)] at hno;rw [Dk hno];rfl
def O0 (hb:CT Tzp fid=true) (hcp:caps.all AV.BS=true) (p:CE->Bool) (l:List CE) (Y:AH) (hf:∀x∈l,AR Tzp fid ((ceA x)::caps) Y (fun v σ'=>v= .d (.bool (p x))/\σ'=Y)):
 AR Tzp 234 [.d (.sl (l.map CE.enc)),.fn fid [] caps] Y (fun v σ'=>v= .d (.bool (l.any p))/\σ'=Y):=by
 refine K5 (by simp) ?_;rw [BD];(repeat' ((first|refine wP ?_|refine AI.det (Ri hb hcp p l Y hf) ?_|fail)<;>try simp only [Ol,HH,go_sem]))
def XM (hb:CT Tzp fid=true) (hcp:caps.all AV.BS=true) (x:CE) (b:Bool) (j:Nat) (Y:AH) (hj:Y.blk j=some [.fn fid [] caps]) (hf:AR Tzp fid ((ceA x)::caps) Y (fun v σ'=>v= .d (.bool b)/\σ'=Y)):
 AR Tzp 235 [(ceA x),.gp j 0] Y (fun v σ'=>v= .d (.bool (!b))/\σ'=Y):=by
 refine Pd (by simp) ?_;rw [BD];obtain ⟨nm,ar⟩:=x;simp only [CE.enc,ceA,AF,AN] at hf ⊢;(repeat' ((first|refine wP ?_|(refine ⟨fid,[],caps,rfl,hb,AI.det hf ?_ (by simp [hcp,Dm])⟩)|fail)<;>try simp only [hj,go_sem]))
def bK (hb:CT Tzp fid=true) (hcp:caps.all AV.BS=true) (p:CE->Bool) (l:List CE) (Y:AH) (hf:∀x∈l,∀σ1,Y.le σ1->AR Tzp fid ((ceA x)::caps) σ1 (fun v σ'=>v= .d (.bool (p x))/\σ'=σ1)):
 AR Tzp 178 [.d (.sl (l.map CE.enc)),.fn fid [] caps] Y (fun v σ'=>v= .d (.bool (l.all p))/\σ'=Y):=by
 refine S3 (by simp) ?_;rw [BD];(repeat' (refine wQ ?_<;>try simp only [go_sem]));intro j hj;have hle:=CK (cs:=[.fn fid [] caps]) hj;(repeat' ((first|refine wQ ?_|(refine Run.Bg JG (σ2:=Y) hle ?_)|refine AI.det (O0 (by kernel_rfl) rfl (fun x=>!p x) l _ (fun x Z=>XM hb hcp x (p x) j _ (by simp only [AJ,if_true]) (hf x Z _ hle))) ?_|fail)<;>try simp only [go_sem]));simp [RE]
def XE (hb:CT Tzp fid=true) (hcp:caps.all AV.BS=true) (p:Al->Bool) (l:List Al) (Y:AH) (hf:∀x∈l,AR Tzp fid ((alA x)::caps) Y (fun v σ'=>v= .d (.bool (p x))/\σ'=Y)):
 AR Tzp 204 [.d (.sl (l.map Al.enc)),.fn fid [] caps] Y (fun v σ'=>v= .d (.int .i64 (HQ (l.findIdx? p)))/\σ'=Y):=by
 refine Pb (by simp) ?_;rw [BD];refine Run.slot 0 (fun hb0=>?_);simp only [DR,if_true,AV.Ev,AA] at hb0;(repeat' (refine wQ ?_<;>try simp only [AA,go_sem]));refine Run.BB ?_;refine Run.BE ((fun (a0:AV) (a1:AV) (a7:AV)=>fun (i:Nat)=>put 0 a0 (put 1 a1 (put 7 a7 (put 8 (.d (.int .i64 i)) U)))) _ _ _) (fun _=>E) (fun _=>Y) (fun i=>i<=l.length/\∀x∈l.take i,p x=false) (fun i=>l.length - i) ?_ 0 ⟨by simp,by simp⟩;rintro i ⟨hi,hno⟩ ih;by_cases hlt:i < l.length
 . obtain ⟨x,Z⟩:=Ai hlt;have he:=BI (enc:=Al.enc) Z;have hw1:=wsu i;have hc:=hf x (AD Z);obtain ⟨c,vs,o,n,u,ns,ks,al⟩:=x;simp only [Al.A4,alA,AF,AN] at he hc;cases hp:p (.mk c vs (.mk o n u ns ks al)) with
   |true=>
    rw [hp] at hc;(repeat' ((first|refine wP ?_|(refine ⟨fid,[],caps,rfl,hb,AI.det hc ?_ (by simp [hcp,Dm])⟩)|fail)<;>try simp only [Ap hlt,he,go_sem]));rw [Dj hno Z hp];rfl
   |false=>
    rw [hp] at hc;(repeat' ((first|refine wQ ?_|(refine ⟨fid,[],caps,rfl,hb,AI.det hc ?_ (by simp [hcp,Dm])⟩)|fail)<;>try simp only [Ap hlt,he,hw1,go_sem]));exact ih (i+1) ⟨by omega,F7 hno Z hp⟩ (by omega)
 . (repeat' (refine wP ?_<;>try simp only [B7 hlt,go_sem]));rw [AP (by omega)] at hno;rw [Dk hno];rfl
def TF (hb:CT Tzp fid=true) (hcp:caps.all AV.BS=true) (p:Al->Bool) (l:List Al) (Y:AH) (hf:∀x∈l,AR Tzp fid ((alA x)::caps) Y (fun v σ'=>v= .d (.bool (p x))/\σ'=Y)):
 AR Tzp 272 [.d (.sl (l.map Al.enc)),.fn fid [] caps] Y (fun v σ'=>v= .d (.bool (l.any p))/\σ'=Y):=by
 refine NG (by simp) ?_;rw [BD];(repeat' ((first|refine wP ?_|refine AI.det (XE hb hcp p l Y hf) ?_|fail)<;>try simp only [Ol,HH,go_sem]))
def iF (hb:CT Tzp fid=true) (hcp:caps.all AV.BS=true) (x:Al) (b:Bool) (j:Nat) (Y:AH) (hj:Y.blk j=some [.fn fid [] caps]) (hf:AR Tzp fid ((alA x)::caps) Y (fun v σ'=>v= .d (.bool b)/\σ'=Y)):
 AR Tzp 273 [(alA x),.gp j 0] Y (fun v σ'=>v= .d (.bool (!b))/\σ'=Y):=by
 refine VA (by simp) ?_;rw [BD];obtain ⟨c,vs,o,n,u,ns,ks,al⟩:=x;simp only [Al.A4,alA,AF,AN] at hf ⊢;(repeat' ((first|refine wP ?_|(refine ⟨fid,[],caps,rfl,hb,AI.det hf ?_ (by simp [hcp,Dm])⟩)|fail)<;>try simp only [hj,go_sem]))
def pR (hb:CT Tzp fid=true) (hcp:caps.all AV.BS=true) (p:Al->Bool) (l:List Al) (Y:AH) (hf:∀x∈l,∀σ1,Y.le σ1->AR Tzp fid ((alA x)::caps) σ1 (fun v σ'=>v= .d (.bool (p x))/\σ'=σ1)):
 AR Tzp 244 [.d (.sl (l.map Al.enc)),.fn fid [] caps] Y (fun v σ'=>v= .d (.bool (l.all p))/\σ'=Y):=by
 refine YC (by simp) ?_;rw [BD];(repeat' (refine wQ ?_<;>try simp only [go_sem]));intro j hj;have hle:=CK (cs:=[.fn fid [] caps]) hj;(repeat' ((first|refine wQ ?_|(refine Run.Bg Mz (σ2:=Y) hle ?_)|refine AI.det (TF (by kernel_rfl) rfl (fun x=>!p x) l _ (fun x Z=>iF hb hcp x (p x) j _ (by simp only [AJ,if_true]) (hf x Z _ hle))) ?_|fail)<;>try simp only [go_sem]));simp [RE]
def singleR (r:List Tok×Nat×Int) (k:Int) (s:Str):Bool:=
 r.2.2==0&&(r.1.length==2&&(match r.1 with|[]=>false|a::_=>a.kind==k&&a.text==s))
def tU (k:Int) (s:Str):J4 k s=singleR (IN s) k s:=rfl
def AKH {l:List α} (h:l.length=2):∃a b,l=[a,b]:=by
 match l,h with
 |[a,b],_=>exact ⟨a,b,rfl⟩
def Dq (s:Str) (k:Int) (Y:AH):AR Tzp 82 [.d (.str s),.d (.int .i64 k)] Y (fun v σ'=>v= .d (.bool (J4 k s))/\σ'=Y):=by
 refine ADN (by simp) ?_;rw [BD,tU];have hsp:=AEH s Y;generalize IN s=r at hsp ⊢;obtain ⟨l,q,e⟩:=r;simp only [LJ] at hsp;cases he:(e==0) with
 |false=>
  (repeat' ((first|refine wP ?_|refine AI.det (hsp) ?_|fail)<;>try simp only [he,go_sem]));simp [singleR,he]
 |true=>
 by_cases hl:l.length=2
 . obtain ⟨⟨ak,at',ap⟩,b,rfl⟩:=AKH hl;simp only [Tok.enc,AF,AN] at hsp;cases hk:(ak==k) with
   |false=>
    (repeat' ((first|refine wP ?_|refine AI.det (hsp) ?_|(refine Ae rfl (fun h=>?_) (fun h=>?_)<;>try (cases h;done))|fail)<;>try simp only [he,hk,go_sem]));simp [singleR,hk]
   |true=>
    (repeat' ((first|refine wP ?_|refine AI.det (hsp) ?_|(refine Ae rfl (fun h=>?_) (fun h=>?_)<;>try (cases h;done))|fail)<;>try simp only [he,hk,CA,go_sem]));simp [singleR,hk,he]
 . have h2:((l.length:Int)==2)=false:=by simp only [beq_eq_false_iff_ne,ne_eq];omega
   (repeat' ((first|refine wP ?_|refine AI.det (hsp) ?_|fail)<;>try simp only [he,AA,h2,go_sem]));simp [singleR,hl]
def Rb (s:Str) (k:Int) (Y:AH):AR Tzp 183 [.d (.str s),.d (.int .i64 k)] Y (fun v σ'=>v= .d (.bool (J4 k s))/\σ'=Y):=by
 refine jY (by simp) ?_;rw [BD,tU];have hsp:=uC s Y;generalize IN s=r at hsp ⊢;obtain ⟨l,q,e⟩:=r;simp only [LJ] at hsp;cases he:(e==0) with
 |false=>
  (repeat' ((first|refine wP ?_|refine AI.det (hsp) ?_|fail)<;>try simp only [he,go_sem]));simp [singleR,he]
 |true=>
 by_cases hl:l.length=2
 . obtain ⟨⟨ak,at',ap⟩,b,rfl⟩:=AKH hl;simp only [Tok.enc,AF,AN] at hsp;cases hk:(ak==k) with
   |false=>
    (repeat' ((first|refine wP ?_|refine AI.det (hsp) ?_|(refine Ae rfl (fun h=>?_) (fun h=>?_)<;>try (cases h;done))|fail)<;>try simp only [he,hk,go_sem]));simp [singleR,hk]
   |true=>
    (repeat' ((first|refine wP ?_|refine AI.det (hsp) ?_|(refine Ae rfl (fun h=>?_) (fun h=>?_)<;>try (cases h;done))|fail)<;>try simp only [he,hk,CA,go_sem]));simp [singleR,hk,he]
 . have h2:((l.length:Int)==2)=false:=by simp only [beq_eq_false_iff_ne,ne_eq];omega
   (repeat' ((first|refine wP ?_|refine AI.det (hsp) ?_|fail)<;>try simp only [he,AA,h2,go_sem]));simp [singleR,hl]
def EP (s:Str) (Y:AH):AR Tzp 124 [.d (.str s)] Y (fun v σ'=>v= .d (.bool (FQ s))/\σ'=Y):=by
 refine nV (by simp) ?_;rw [Bj];(repeat' ((first|refine wP ?_|refine AI.det (Rb s 1 _) ?_|fail)<;>try simp only [go_sem]));rfl
def CM (s:Str) (Y:AH):AR Tzp 177 [.d (.str s)] Y (fun v σ'=>v= .d (.bool (HA s))/\σ'=Y):=by
 refine jZ (by simp) ?_;rw [Bj];(repeat' ((first|refine wP ?_|refine AI.det (Rb s 2 _) ?_|fail)<;>try simp only [go_sem]));rfl
def M0 (s:Str) (Y:AH):AR Tzp 243 [.d (.str s)] Y (fun v σ'=>v= .d (.bool (XS s))/\σ'=Y):=by
 refine nU (by simp) ?_;rw [Bj];cases h0:(s==[]) with
 |true=>
  (repeat' (refine wP ?_<;>try simp only [CA,h0,go_sem]));simp [XS,h0]
 |false=>
  (repeat' ((first|refine wP ?_|refine AI.det (EP s _) ?_|fail)<;>try simp only [CA,h0,go_sem]));simp [XS,h0]
def PR (l:List Str) (strict:Bool):Bool:=decide (l.length<=6)&&l.all (fun s=>FQ s||(s==[]&& !strict))
def gt6 (n:Nat):decide ((6:Int) < (n:Int))=!decide (n<=6):=gtN n 6
def pS {p:α->Bool} {l:List α} {x:α} (Z:l[i]?=some x) (hp:p x=false):l.all p=false:=by
 rw [List.all_eq_false];exact ⟨x,AD Z,by rw [hp];simp⟩
def Ml {p:α->Bool} {l:List α} {x:α} (h:(l.take i).all p=true) (Z:l[i]?=some x) (hp:p x=true):(l.take (i+1)).all p=true:=by
 rw [A5 Z,ZV,h];simp [hp]
def KJ (l:List Str) (strict:Bool) (Y:AH):AR Tzp 83 [.d (.sl (l.map BX)),.d (.bool strict)] Y (fun v σ'=>v= .d (.bool (PR l strict))/\σ'=Y):=by
 refine AHM (by simp) ?_;rw [BD];by_cases h6:l.length<=6
 case neg=>
  (repeat' (refine wP ?_<;>try simp only [gt6,AA,decide_eq_false h6,go_sem]));simp [PR,h6]
 (repeat' (refine wQ ?_<;>try simp only [gt6,AA,decide_eq_true h6,go_sem]));refine Run.BB ?_;refine Run.BE ((fun (a0:AV) (a1:AV)=>fun (i:Nat)=>put 0 a0 (put 1 a1 (put 5 (.d (.int .i64 i)) U))) _ _) (fun _=>E) (fun _=>Y) (fun i=>i<=l.length/\(l.take i).all (fun s=>FQ s||(s==[]&& !strict))=true) (fun i=>l.length - i) ?_ 0 ⟨by simp,by simp⟩;rintro i ⟨hi,hok⟩ ih;by_cases hlt:i < l.length
 . obtain ⟨x,Z⟩:=Ai hlt;have he:=BI (enc:=BX) Z;simp only [BX] at he;have hw1:=wsu i;have hn:=Dq x 1 Y;rw [show J4 1 x=FQ x from rfl] at hn;cases hp:(FQ x||(x==[]&& !strict)) with
   |true=>
    cases hnm:FQ x with
    |true=>
     rw [hnm] at hn;(repeat' ((first|refine wQ ?_|refine AI.det (hn) ?_|fail)<;>try simp only [Ap hlt,AA,he,hw1,go_sem]));exact ih (i+1) ⟨by omega,Ml hok Z hp⟩ (by omega)
    |false=>
     rw [hnm] at hn;simp only [hnm,Ep,AO,Br] at hp;obtain ⟨hp1,rfl⟩:=hp;(repeat' ((first|refine wQ ?_|refine AI.det (hn) ?_|fail)<;>try simp only [Ap hlt,AA,he,hw1,CA,hp1,go_sem]));exact ih (i+1) ⟨by omega,Ml hok Z (by simp [hnm,hp1])⟩ (by omega)
   |false=>
    have hnm:FQ x=false:=(CY.1 hp).1;rw [hnm] at hn;have hres:PR l strict=false:=by rw [PR,pS Z hp,Cy]
    cases h0:(x==[]) with
    |false=>
     (repeat' ((first|refine wP ?_|refine AI.det (hn) ?_|fail)<;>try simp only [Ap hlt,AA,he,CA,h0,go_sem]));rw [hres]
    |true=>
     have hst:strict=true:=by simpa [hnm,h0] using hp
     (repeat' ((first|refine wP ?_|refine AI.det (hn) ?_|fail)<;>try simp only [Ap hlt,AA,he,CA,h0,hst,go_sem]));rw [<- hst,hres]
 . (repeat' (refine wP ?_<;>try simp only [B7 hlt,AA,go_sem]));rw [AP (by omega)] at hok;rw [PR,hok];simp [h6]
def oJ:∀(d:Nat) (t:TE) (Y:AH),d<=40->t.size<=1000000->AR Tzp 84 [teA t,.d (.int .i64 d)] Y (fun v σ'=>v= .d (.bool (DS d t))/\σ'=Y):=by
 intro d
 induction d with
 |zero=>
  rintro ⟨k,n,l⟩ Y _ _;refine Xw (by simp) ?_;rw [BD,teA,TE.A4];have h0:(((0:Nat):Int)==0)=true:=by decide
  (repeat' (refine wP ?_<;>try simp only [h0,go_sem]));rfl
 |succ d ihd=>
  rintro ⟨k,n,l⟩ Y hd hsz;have hlen:=TE.Bx l;have hsz1:TE.AQ l+1<=1000000:=by simpa [TE.size,Nat.add_comm] using hsz
  refine Xw (by simp) ?_;rw [BD,teA,TE.A4];have h0:(((d+1:Nat):Int)==0)=false:=by simp only [beq_eq_false_iff_ne,ne_eq];omega
  have hws:IntKind.i64.wrap (((d+1:Nat):Int) - 1)=(d:Int):=M1 (by omega)
  have hloop:gU k n l.length=true->Run IT (fun v σ'=>v= .d (.bool (DS (d+1) (.mk k n l)))/\σ'=Y) [.code (.loop RM),.blk 1,.code (.seq (.reg [⟨some 4,.mv (.c (.d (.bool true))),none⟩] [4]) .ret)]
   (put 1 (.d (.int .i64 ((d+1:Nat):Int))) (put 2 (.lp 2 0) (put 5 (.d (.int .i64 l.length)) (put 6 (.d (.int .i64 0)) U)))) (At 2 [.d (.int .i64 k),.d (.str n),.d (.sl (l.map TE.enc))] E) Y:=by
   intro hsh;refine Run.BB ?_;refine Run.BE ((fun (a1:AV) (a2:AV) (a5:AV)=>fun (i:Nat)=>put 1 a1 (put 2 a2 (put 5 a5 (put 6 (.d (.int .i64 i)) U)))) _ _ _) (fun _=>At 2 [.d (.int .i64 k),.d (.str n),.d (.sl (l.map TE.enc))] E) (fun _=>Y) (fun i=>i<=l.length/\(l.take i).all (DS d)=true) (fun i=>l.length - i) ?_ 0 ⟨by simp,by simp⟩;rintro i ⟨hi,hok⟩ ih;by_cases hlt:i < l.length
   . obtain ⟨x,Z⟩:=Ai hlt;have he:=BI (enc:=TE.enc) Z;have hms:=TE.Im (AD Z);have hc:=ihd x Y (by omega) (by omega);have hw1:=wsu i;cases hp:DS d x with
     |true=>
      rw [hp] at hc;obtain ⟨xk,xn,xl⟩:=x;simp only [TE.A4,teA,AF,AN] at he hc;(repeat' ((first|refine wQ ?_|refine AI.det (hc) ?_|fail)<;>try simp only [Ap hlt,he,hw1,hws,go_sem]));exact ih (i+1) ⟨by omega,Ml hok Z hp⟩ (by omega)
     |false=>
      rw [hp] at hc;have hres:DS (d+1) (.mk k n l)=false:=by rw [DS,pS Z hp,Cy]
      obtain ⟨xk,xn,xl⟩:=x;simp only [TE.A4,teA,AF,AN] at he hc;(repeat' ((first|refine wP ?_|refine AI.det (hc) ?_|fail)<;>try simp only [Ap hlt,he,hws,go_sem]));rw [hres]
   . (repeat' (refine wP ?_<;>try simp only [B7 hlt,go_sem]));rw [AP (by omega)] at hok;rw [DS,hsh,hok];rfl
  clear ihd;(repeat' (first|((first|refine wP ?_|((refine hloop ?_))|refine AI.det (Dq _ _ _) ?_|(refine Ae rfl (fun h=>?_) (fun h=>?_)<;>try (cases h;done))|fail)<;>try simp only [h0,CA,F1,AA,go_sem])|(refine ⟨fun h=>?_,fun h=>?_⟩<;>first|(cases h;done)|try simp only [h])|fail))
  all_goals clear hloop hws h0
  all_goals (simp only [beq_iff_eq,beq_eq_false_iff_ne,ne_eq,Br,Bool.not_eq_false',decide_eq_true_eq,decide_eq_false_iff_not] at *;simp_all [DS,gU,FQ,HA];first|done|omega|(intros;omega)|(intros;exfalso;omega)|(rcases l with _|⟨a,l⟩<;>simp<;>omega))
def Wz (d:Nat) (hd:∀(t:TE) (Y:AH),t.size<=1000000->AR Tzp 182 [teA t,.d (.int .i64 ((41 - d:Nat):Int))] Y (fun v σ'=>v= .d (.bool (DS d t))/\σ'=Y)) (hd40:d < 40)
 (t:TE) (j:Nat) (Y:AH) (hsz:t.size<=1000000) (hj:Y.blk j=some [.d (.int .i64 ((40 - d:Nat):Int))]):
 AR Tzp 238 [teA t,.gp j 0] Y (fun v σ'=>v= .d (.bool (DS d t))/\σ'=Y):=by
 refine YE (by simp) ?_;rw [BD];have hc:=hd t Y hsz;obtain ⟨k,n,l⟩:=t;simp only [TE.A4,teA,AF,AN] at hc ⊢;have hw:IntKind.i64.wrap (((40 - d:Nat):Int)+1)=((41 - d:Nat):Int):=by rw [D4 (by omega) (by omega)];omega
 (repeat' ((first|refine wP ?_|refine AI.det (hc) ?_|fail)<;>try simp only [hj,hw,go_sem]))
def aG:∀(d:Nat),d<=40->∀(t:TE) (Y:AH),t.size<=1000000->AR Tzp 182 [teA t,.d (.int .i64 ((41 - d:Nat):Int))] Y (fun v σ'=>v= .d (.bool (DS d t))/\σ'=Y):=by
 intro d
 induction d with
 |zero=>
  rintro _ ⟨k,n,l⟩ Y _;refine Pe (by simp) ?_;rw [BD,teA,TE.A4];(repeat' (refine wQ ?_<;>try simp only [go_sem]));intro j hj;have hle:=CK (cs:=[.d (.int .i64 ((41 - 0:Nat):Int))]) hj;have h0:decide ((40:Int) < ((41 - 0:Nat):Int))=true:=by decide
  (repeat' (first|((first|refine wQ ?_|(refine Run.Bg Jo (σ2:=Y) hle ?_)|(refine Ae rfl (fun h=>?_) (fun h=>?_)<;>try (cases h;done))|fail)<;>try simp only [go_sem])|(refine ⟨fun h=>?_,fun h=>?_⟩<;>first|(cases h;done)|try simp only [h])|fail));rfl
 |succ d ihd=>
  rintro hd ⟨k,n,l⟩ Y hsz;have hlen:=TE.Bx l;have hsz1:TE.AQ l+1<=1000000:=by simpa [TE.size,Nat.add_comm] using hsz
  have hd1:=ihd (by omega);refine Pe (by simp) ?_;rw [BD,teA,TE.A4];have h0:decide ((40:Int) < ((41 - (d+1):Nat):Int))=false:=by simp only [decide_eq_false_iff_not];omega
  (repeat' (refine wQ ?_<;>try simp only [go_sem]));intro j hj;have hle:=CK (cs:=[.d (.int .i64 ((41 - (d+1):Nat):Int))]) hj
  have hall:=OH (fid:=238) (caps:=[.gp j 0]) (by kernel_rfl) rfl (DS d) l (Y.AL j [.d (.int .i64 ((41 - (d+1):Nat):Int))]) (fun x Z σ1 hle1=>by
   have hms:=TE.Im Z;refine Wz d hd1 (by omega) x j σ1 (by omega) ?_;rw [hle1.blk j _ (by simp only [AJ,if_true];rfl)];rw [show 41 - (d+1)=40 - d by omega])
  clear hd1 ihd;(repeat' (first|((first|refine wQ ?_|(refine Run.Bg Jo (σ2:=Y) hle ?_)|refine AI.det (EP _ _) ?_|refine AI.det (CM _ _) ?_|refine AI.det (hall) ?_|(refine Ae rfl (fun h=>?_) (fun h=>?_)<;>try (cases h;done))|fail)<;>try simp only [F1,AA,go_sem])|(refine ⟨fun h=>?_,fun h=>?_⟩<;>first|(cases h;done)|try simp only [h])|fail))
  all_goals clear hall h0
  all_goals (simp only [bne,beq_iff_eq,beq_eq_false_iff_ne,ne_eq,Br,Bool.not_eq_false',decide_eq_true_eq,decide_eq_false_iff_not] at *;simp_all [DS,gU];first|done|omega|(intros;omega)|(intros;exfalso;omega)|(rcases l with _|⟨a,l⟩<;>simp<;>omega))
def Ab5 (n:Nat):((n:Int)==0)=decide (n=0):=by rw [Ak];simp only [beq_iff_eq,decide_eq_true_eq];omega
def Sp (n:Str) (u:Int) (a b:Nat):Bool:=n==[]&&(u==0&&(decide (a=0)&&decide (b=0)))
def NW (o:Int) (n:Str) (u:Int) (ns ks al:List (List DV)) (Y:AH):
 AR Tzp 242 [.agg [.d (.int .i64 o),.d (.str n),.d (.int .i64 u),.d (.sl ns),.d (.sl ks),.d (.sl al)]] Y (fun v σ'=>v= .d (.bool (Sp n u ns.length al.length))/\σ'=Y):=by
 refine rP (by simp) ?_;rw [Bj];cases h1:(n==[])<;>cases h2:(u==0)<;>cases h3:decide (ns.length=0)
 all_goals (repeat' (refine wP ?_<;>try simp only [CA,h1,h2,h3,Ab5,go_sem]))
 all_goals (unfold Sp;rw [h1,h2,h3];rfl)
def AN3 (o:Int) (n:Str) (u:Int) (ks al:List (List DV)) (Y:AH):
 AR Tzp 242 [.agg [.d (.int .i64 o),.d (.str n),.d (.int .i64 u),.Ad,.d (.sl ks),.d (.sl al)]] Y (fun v σ'=>v= .d (.bool (Sp n u 0 al.length))/\σ'=Y):=
 AR.plain (by simpa only [AV.CV,MU,HU,HV,Bw] using NW o n u [] ks al Y)
def AN4 (o:Int) (n:Str) (u:Int) (ns ks:List (List DV)) (Y:AH):
 AR Tzp 242 [.agg [.d (.int .i64 o),.d (.str n),.d (.int .i64 u),.d (.sl ns),.d (.sl ks),.Ad]] Y (fun v σ'=>v= .d (.bool (Sp n u ns.length 0))/\σ'=Y):=
 AR.plain (by simpa only [AV.CV,MU,HU,HV,Bw] using NW o n u ns ks [] Y)
def U3 (n lo hi:Int) (Y:AH):AR Tzp 246 [.d (.int .i64 n),.d (.int .i64 lo),.d (.int .i64 hi)] Y (fun v σ'=>v= .d (.bool (decide (lo<=n)&&decide (n<=hi)))/\σ'=Y):=by
 refine jX (by simp) ?_;rw [DK];cases h1:decide (lo<=n)
 all_goals (repeat' (refine wP ?_<;>try simp only [h1,go_sem]))
def AXI (u:Int):Str:=if u=1 then [110,101,119] else if u=2 then [103,101,116] else if u=3 then [115,101,116] else if u=4 then [108,101,110] else if u=5 then [114,101,102] else if u=6 then [114,101,97,100] else if u=7 then [119,114,105,116,101] else []
def AA9 (u:Int) (Y:AH):AR Tzp 247 [.d (.int .i64 u)] Y (fun v σ'=>v= .tup [.d (.str (AXI u)),.d (.int .i64 (aZ u))]/\σ'=Y):=by
 refine cR (by simp) ?_;rw [Bj];(repeat' (first|(refine wP ?_<;>try simp only [go_sem])|(refine ⟨fun h=>?_,fun h=>?_⟩<;>first|(cases h;done)|try simp only [h])|fail))
 all_goals (simp only [beq_iff_eq,beq_eq_false_iff_ne,ne_eq] at *;simp_all [AXI,aZ])
def AFD (a:Al) (Y:AH):AR Tzp 245 [alA a] Y (fun v σ'=>v= .d (.bool (eA a))/\σ'=Y):=by
 refine fF (by simp) ?_;rw [Bj];obtain ⟨c,vs,o,n,u,ns,ks,al⟩:=a;simp only [Al.A4,alA,AF,AN];have hl6:decide ((vs.length:Int)<=6)=decide (vs.length<=6):=leN vs.length 6;cases h1:HA c with
 |false=>
  (repeat' ((first|refine wP ?_|refine AI.det (CM c _) ?_|fail)<;>try simp only [h1,go_sem]));simp [eA,h1]
 |true=>
  by_cases h6:vs.length<=6
  . (repeat' ((first|refine wP ?_|refine AI.det (CM c _) ?_|refine AI.det (Iw (caps:=[]) (by kernel_rfl) rfl XS vs Y (fun x _ σ1 _=>M0 x σ1)) ?_|fail)<;>try simp only [h1,AA,hl6,decide_eq_true h6,go_sem]));simp [eA,h1,h6]
  . (repeat' ((first|refine wP ?_|refine AI.det (CM c _) ?_|fail)<;>try simp only [h1,AA,hl6,decide_eq_false h6,go_sem]));simp [eA,h6]
def AB1 (o:Int) (n:Str) (u:Int) (ns:List Str) (ks:List Ex) (al:List Al) (Y:AH) (ho:o=1\/o=2\/o=3\/o=4\/o=15):
 AR Tzp 241 [exA (.mk o n u ns ks al)] Y (fun v σ'=>v= .d (.bool (nmB o n&&nuB o u&&nsB o ns&&asB o al))/\σ'=Y):=by
 refine cT (by simp) ?_;rw [Bj,exA,Ex.A4];have fin:∀b c:Bool,(b=true↔c=true)->AV.d (.bool b)=AV.d (.bool c):=fun b c h=>by rw [Ak.2 h]
 rcases ho with rfl|rfl|rfl|rfl|rfl
 . (repeat' ((first|refine wP ?_|refine AI.det (NW _ _ _ _ _ _ _) ?_|fail)<;>try simp only [AA,go_sem]))
   all_goals (refine fin _ _ ?_;simp [Sp,nmB,nuB,nsB,asB, *];try grind)
 . (repeat' ((first|refine wP ?_|refine AI.det (NW _ _ _ _ _ _ _) ?_|refine AI.det (U3 _ _ _ _) ?_|(refine Ae rfl (fun h=>?_) (fun h=>?_)<;>try (cases h;done))|fail)<;>try simp only [AA,Aa,go_sem]))
   all_goals (refine fin _ _ ?_;simp [Sp,nmB,nuB,nsB,asB, *] at *;try grind)
 . (repeat' ((first|refine wP ?_|refine AI.det (NW _ _ _ _ _ _ _) ?_|refine AI.det (U3 _ _ _ _) ?_|(refine Ae rfl (fun h=>?_) (fun h=>?_)<;>try (cases h;done))|fail)<;>try simp only [AA,Aa,go_sem]))
   all_goals (refine fin _ _ ?_;simp [Sp,nmB,nuB,nsB,asB, *] at *;try grind)
 . (repeat' ((first|refine wP ?_|refine AI.det (NW _ _ _ _ _ _ _) ?_|refine AI.det (EP _ _) ?_|(refine Ae rfl (fun h=>?_) (fun h=>?_)<;>try (cases h;done))|fail)<;>try simp only [AA,Aa,go_sem]))
   all_goals (refine fin _ _ ?_;simp [Sp,nmB,nuB,nsB,asB, *] at *;try grind)
 . (repeat' ((first|refine wP ?_|refine AI.det (NW _ _ _ _ _ _ _) ?_|refine AI.det (U3 _ _ _ _) ?_|(refine Ae rfl (fun h=>?_) (fun h=>?_)<;>try (cases h;done))|fail)<;>try simp only [AA,Aa,go_sem]))
   all_goals (refine fin _ _ ?_;simp [Sp,nmB,nuB,nsB,asB, *] at *;try grind)
def yU (u:Int):0 < aZ u↔1<=u/\u<=7:=by
 unfold aZ;repeat' split
 all_goals omega
def AB2 (o:Int) (n:Str) (u:Int) (ns:List Str) (ks:List Ex) (al:List Al) (Y:AH):
 AR Tzp 186 [exA (.mk o n u ns ks al)] Y (fun v σ'=>v= .d (.bool (R4 o n u ns ks.length al))/\σ'=Y):=by
 refine cV (by simp) ?_;rw [Bj,exA,Ex.A4];have fin:∀b c:Bool,(b=true↔c=true)->AV.d (.bool b)=AV.d (.bool c):=fun b c h=>by rw [Ak.2 h]
 have hleaf:=fun h=>AB1 o n u ns ks al Y h;simp only [exA,Ex.A4,AF,AN] at hleaf ⊢;have hbi:=Iw (fid:=243) (caps:=[]) (by kernel_rfl) rfl XS ns Y (fun x _ σ1 _=>M0 x σ1);have hnm:=Iw (fid:=124) (caps:=[]) (by kernel_rfl) rfl FQ ns Y (fun x _ σ1 _=>EP x σ1);have hal:=pR (fid:=245) (caps:=[]) (by kernel_rfl) rfl eA al Y (fun x _ σ1 _=>AFD x σ1);by_cases ho:o=1\/o=2\/o=3\/o=4\/o=5\/o=6\/o=7\/o=8\/o=9\/o=10\/o=11\/o=12\/o=13\/o=14\/o=15\/o=16\/o=17
 . rcases ho with rfl|rfl|rfl|rfl|rfl|rfl|rfl|rfl|rfl|rfl|rfl|rfl|rfl|rfl|rfl|rfl|rfl
   all_goals (repeat' ((first|refine wP ?_|refine AI.det (hleaf (by simp)) ?_|refine AI.det (NW _ _ _ _ _ _ _) ?_|refine AI.det (AN3 _ _ _ _ _ _) ?_|refine AI.det (AN4 _ _ _ _ _ _) ?_|refine AI.det (CM _ _) ?_|refine AI.det (M0 _ _) ?_|refine AI.det (U3 _ _ _ _) ?_|refine AI.det (AA9 _ _) ?_|refine AI.det (hbi) ?_|refine AI.det (hnm) ?_|refine AI.det (hal) ?_|(refine Ae rfl (fun h=>?_) (fun h=>?_)<;>try (cases h;done))|fail)<;>try simp only [AA,Aa,go_sem]))
   all_goals clear hleaf hbi hnm hal
   all_goals (refine fin _ _ ?_;simp [R4,Sp,nmB,nuB,nsB,asB,nkB, *] at *;try (have hpr:=yU u;grind))
 . have hno:R4 o n u ns ks.length al=false:=by
    simp only [not_or] at ho;simp [R4,nkB,ho]
   simp only [not_or] at ho;obtain ⟨h1,h2,h3,h4,h5,h6,h7,h8,h9,h10,h11,h12,h13,h14,h15,h16,h17⟩:=ho;(repeat' (refine wP ?_<;>try simp only [Cf h1,Cf h2,Cf h3,Cf h4,Cf h5,Cf h6,Cf h7,Cf h8,Cf h9,Cf h10,Cf h11,Cf h12,Cf h13,Cf h14,Cf h15,Cf h16,Cf h17,go_sem]));rw [hno]
end Go.Ab
