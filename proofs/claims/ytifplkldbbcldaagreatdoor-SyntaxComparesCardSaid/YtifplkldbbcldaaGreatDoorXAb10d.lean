/- Regions that draw their order, continued: where operations do not commute, every order is looked at. Regions that draw their order, continued: new local variables may be laid first. Conditions: none. -/
import Derived.Test.YtifplkldbbcldaaGreatDoorXAb10b
set_option linter.unusedSimpArgs false
set_option linter.unusedVariables false
set_option maxRecDepth 4000
set_option maxHeartbeats 8000000
open Bool renaming false_eq_true→A1,and_eq_true→AN,or_eq_true→BM,not_eq_true'→E2
open Option.some renaming injEq→AR
open List renaming all_eq_true→A5,contains_iff_mem→BX,mem_singleton→FB,mem_zipIdx_iff_getElem?→TA,mem_append→BN,mem_cons→CN,range→Ir
open Option renaming bind_eq_some_iff→AB,map_eq_some_iff→AK,getD_some→Qu,bind_some→B3,bind_eq_bind→AS
open Array renaming getD_eq_getD_getElem?→Ch,getElem?_eq_getElem→ME,replicate→Eh
open Nat renaming le_refl→A8
namespace Go.Ab
open Go.RowKit
variable {P:Program} {base N:Nat} {g g':Gh} {Pr:Nat→Prop} {σ σ':AM} {w0 w w':World} {lam:Nat→Option Nat} {F:Fm} {L:Lm} {a:Act} {K:C6}
theorem oL {o:O} {dst:Option Nat} {K':C6} (hk:∀F L σ,K F L σ→K' F L σ) (hx:XO P dst K F L σ o):XO P dst K' F L σ o:=by
 by_cases hV:isV o=true
 · rw [k7 hV] at hx ⊢
   obtain ⟨v,h1,h2⟩:=hx
   exact ⟨v,h1,hk _ _ _ h2⟩
 · cases o<;>simp only [isV,not_true_eq_false] at hV
   case box x sh=>
    simp only [XO,TB] at hx ⊢
    refine ⟨hx.1,?_⟩
    have hx:=hx.2
    cases dst with
    |none=>exact hx.elim
    |some d=>cases sh with
     |true=>exact fun i hi=>hk _ _ _ (hx i hi)
     |false=>exact hk _ _ _ hx
   case al z sh=>
    simp only [XO,TB] at hx ⊢
    refine ⟨hx.1,?_⟩
    have hx:=hx.2
    cases dst with
    |none=>exact hx.elim
    |some d=>cases sh with
     |true=>exact fun i hi=>hk _ _ _ (hx i hi)
     |false=>exact hk _ _ _ hx
   case st x v n=>
    simp only [XO,XSt] at hx ⊢
    obtain ⟨h1,h2,h3,h4⟩:=hx
    refine ⟨h1,h2,h3,?_⟩
    split at h4
    · exact hk _ _ _ h4
    · exact h4.elim
   case msl e s b z l c=>
    obtain ⟨k,k',n,h1,h2,h3,h4,h5,h6⟩:=hx
    exact ⟨k,k',n,h1,h2,h3,h4,h5,fun i hi=>hk _ _ _ (h6 i hi)⟩
   case ZH e s b x y=>
    obtain ⟨n,cs,σ1,srows,h1,h2,h3,h4,h5,h6,h7⟩:=hx
    exact ⟨n,cs,σ1,srows,h1,h2,h3,fun e=>hk _ _ _ (h4 e),h5,h6,fun e t ht=>hk _ _ _ (h7 e t ht)⟩
   case trn x y=>
    obtain ⟨k,s,e,cs,σ1,h1,h2⟩:=hx
    exact ⟨k,s,e,cs,σ1,h1,fun t ht=>hk _ _ _ (h2 t ht)⟩
   case Mt e s l z ps=>
    obtain ⟨cs,h1,h2⟩:=hx
    exact ⟨cs,h1,h2.imp (fun h2 t ht=>hk _ _ _ (h2 t ht)) fun ⟨ds,h3,h4,h5⟩=>⟨ds,h3,h4,fun t ht=>hk _ _ _ (h5 t ht)⟩⟩
   case app e s b x y=>
    rcases hx with ⟨rows,σ1,srows,h1,h2,h3,h4,h5,h6⟩|⟨rows,srows,h1,h2,h3,h4,h5,h6,h7⟩
    · exact .inl ⟨rows,σ1,srows,h1,h2,h3,h4,h5,fun t ht=>hk _ _ _ (h6 t ht)⟩
    · exact .inr ⟨rows,srows,h1,h2,h3,h4,h5,h6,hk _ _ _ h7⟩
   case call f args=>
    obtain ⟨h1,R,h2,h3⟩:=hx
    exact ⟨h1,R,h2,fun v σ' hv=>hk _ _ _ (h3 v σ' hv)⟩
   case DI x args=>
    obtain ⟨f,first,caps,h0,hb,h1,R,h2,h3⟩:=hx
    exact ⟨f,first,caps,h0,hb,h1,R,h2,fun v σ' hv=>hk _ _ _ (h3 v σ' hv)⟩
   case ex k xs=>
    simp only [XO,XEx,hV,A1,if_false] at hx ⊢
    exact ⟨hx.1,hx.2.mono fun v σ' _ hv=>hk _ _ _ hv⟩
theorem Tw {q:Q} {K':C6} (hk:∀F L σ,K F L σ→K' F L σ) (hx:XQ P q K F L σ):XQ P q K' F L σ:=by
 unfold XQ at hx ⊢
 cases hc:gd F q.grd with
 |none=>rw [hc] at hx;exact hx.elim
 |some b=>
  rw [hc] at hx
  cases b
  · exact hk _ _ _ hx
  · exact oL hk hx
inductive PT where
 |done
 |one (i:Nat) (t:PT)
 |alt (i:Nat) (t r:PT)
 |lay (i:Nat) (t:PT)
inductive QT where
 |done
 |one (q:Q) (t:QT)
 |alt (q:Q) (t r:QT)
def XT (P:Program) (K:C6):Bool→QT→C6
 |false,.done=>K
 |true,.done=>fun _ _ _=>True
 |_,.one q t=>XQ P q (XT P K false t)
 |_,.alt q t r=>fun F L σ=>XQ P q (XT P K false t) F L σ∧XT P K true r F L σ
def PT.depth:PT→Nat
 | .done=>0
 | .one _ t=>t.depth+1
 | .alt _ t r=>max (t.depth+1) r.depth
 | .lay _ t=>t.depth+1
def VX (qs:List Q):PT→Option QT
 | .done=>some .done
 | .one i t=>(qs[i]?).bind fun q=>(VX qs t).map (.one q ·)
 | .alt i t r=>(qs[i]?).bind fun q=>(VX qs t).bind fun t'=>(VX qs r).map (.alt q t' ·)
 | .lay i t=>(qs[i]?).bind fun q=>(VX qs t).map (.one q ·)
def NZ (ops:Array Oper) (tab:Array Nat) (qs:List Q):PT→Array Bool→Option (List Nat)→Bool
 | .done,listed,none=>(Region.ready .any ops listed).isEmpty
 | .done,listed,some l=>(Region.ready .any ops listed).all (l.contains ·)
 | .one i t,listed,none=>(Region.ready .any ops listed).contains i&&(Region.ready .any ops listed==[i]||XW tab qs listed i)&&NZ ops tab qs t (listed.setIfInBounds i true) none
 | .one i t,listed,some l=>(Region.ready .any ops listed).contains i&&(Region.ready .any ops listed).all (fun j=>j==i||l.contains j)&&NZ ops tab qs t (listed.setIfInBounds i true) none
 | .alt i t r,listed,e=>(Region.ready .any ops listed).contains i&&NZ ops tab qs t (listed.setIfInBounds i true) none&&NZ ops tab qs r listed (some (i::e.getD []))
 | .lay _ _,_,_=>false
theorem X1 {ops:Array Oper} {tab:Array Nat} (htab:∀j i,(tab.getD j 0).testBit i=true→Anc ops j i) {qs:List Q}:∀(t:PT) (qt:QT),VX qs t=some qt→
 (∀n listed F L σ,t.depth≤n→NZ ops tab qs t listed none=true→JB ops listed→listed.size=ops.size→XT P K false qt F L σ→V9 P ops qs K n listed F L σ)∧
 (∀n listed l F L σ,t.depth≤n+1→NZ ops tab qs t listed (some l)=true→JB ops listed→listed.size=ops.size→XT P K true qt F L σ→
   ∀j∈Region.ready .any ops listed,j ∉ l→∃q,qs[j]?=some q∧XQ P q (V9 P ops qs K n (listed.setIfInBounds j true)) F L σ)
 | .done,qt,hp=>by
  simp only [VX,AR] at hp;subst hp
  refine ⟨fun n listed F L σ _ hp _ _ hx=>?_,fun n listed l F L σ _ hp _ _ _ j hj hjl=>?_⟩
  · simp only [NZ,List.isEmpty_iff] at hp
    cases n with
    |zero=>exact ⟨hp,hx⟩
    |succ n=>exact ⟨fun _=>hx,fun i hi=>by rw [hp] at hi;cases hi⟩
  · simp only [NZ,A5,BX] at hp
    exact absurd (hp j hj) hjl
 | .one i t,qt,hp=>by
  simp only [VX,AB,AK] at hp
  obtain ⟨q,hq,t',ht',rfl⟩:=hp
  obtain ⟨ih,_⟩:=X1 htab t t' ht'
  refine ⟨fun n listed F L σ hd hp hcl hsz hx=>?_,fun n listed l F L σ hd hp hcl hsz hx j hj hjl=>?_⟩
  · simp only [PT.depth] at hd
    obtain ⟨m,rfl⟩:∃m,n=m+1:=⟨n - 1,by omega⟩
    simp only [NZ,AN,BM,BX,beq_iff_eq] at hp
    obtain ⟨⟨hr,hok⟩,hrest⟩:=hp
    have hx:XQ P q (XT P K false t') F L σ:=hx
    have ih':=fun F L σ=>ih m (listed.setIfInBounds i true) F L σ (by omega) hrest (hcl.set hr) (by simpa using hsz)
    rcases hok with hok|hok
    · refine ⟨fun h=>(by rw [h] at hr;cases hr),fun j hj=>?_⟩
      rw [hok] at hj
      simp only [FB] at hj
      subst hj
      exact ⟨_,hq,Tw (fun F L σ h=>ih' F L σ h) hx⟩
    · unfold XW at hok
      rw [hq] at hok
      simp only [AN,A5] at hok
      obtain ⟨v,hy,hk⟩:=(oN hok.1 _).1 hx
      refine ZC htab hq hok.1 m listed F L σ v hcl hsz (fun j qj hj hji hun=>?_) hr hy (ih' _ _ _ hk)
      have hmem:(qj,j)∈qs.zipIdx:=by
       rw [TA];exact hj
      have:=hok.2 (qj,j) hmem
      simp only [BM,beq_iff_eq] at this
      rcases this with (h|h)|h
      · exact absurd h hji
      · rw [hun] at h;cases h
      · exact h
  · simp only [PT.depth] at hd
    simp only [NZ,AN,A5,BX,BM,beq_iff_eq] at hp
    obtain ⟨⟨hr,hall⟩,hrest⟩:=hp
    have hx:XQ P q (XT P K false t') F L σ:=hx
    rcases hall j hj with rfl|h
    · exact ⟨q,hq,Tw (fun F L σ h=>ih n _ F L σ (by omega) hrest (hcl.set hr) (by simpa using hsz) h) hx⟩
    · exact absurd h hjl
 | .alt i t r,qt,hp=>by
  simp only [VX,AB,AK] at hp
  obtain ⟨q,hq,t',ht',r',hr',rfl⟩:=hp
  obtain ⟨ih,_⟩:=X1 htab t t' ht'
  obtain ⟨_,ihr⟩:=X1 htab r r' hr'
  refine ⟨fun n listed F L σ hd hp hcl hsz hx=>?_,fun n listed l F L σ hd hp hcl hsz hx j hj hjl=>?_⟩
  · simp only [PT.depth] at hd
    obtain ⟨m,rfl⟩:∃m,n=m+1:=⟨n - 1,by omega⟩
    simp only [NZ,AN,BX,Option.getD_none] at hp
    obtain ⟨⟨hr,hrest⟩,hp2⟩:=hp
    obtain ⟨hx1,hx2⟩:=hx
    refine ⟨fun h=>(by rw [h] at hr;cases hr),fun j hj=>?_⟩
    by_cases hji:j=i
    · subst hji
      exact ⟨q,hq,Tw (fun F L σ h=>ih m _ F L σ (by omega) hrest (hcl.set hr) (by simpa using hsz) h) hx1⟩
    · exact ihr m listed [i] F L σ (by omega) hp2 hcl hsz hx2 j hj (by simpa using hji)
  · simp only [PT.depth] at hd
    simp only [NZ,AN,BX,Qu] at hp
    obtain ⟨⟨hr,hrest⟩,hp2⟩:=hp
    obtain ⟨hx1,hx2⟩:=hx
    by_cases hji:j=i
    · subst hji
      exact ⟨q,hq,Tw (fun F L σ h=>ih n _ F L σ (by omega) hrest (hcl.set hr) (by simpa using hsz) h) hx1⟩
    · exact ihr n listed (i::l) F L σ (by omega) hp2 hcl hsz hx2 j hj (by simp [hji,hjl])
 | .lay i t,qt,hp=>⟨fun n listed F L σ _ hp=>by simp [NZ] at hp,fun n listed l F L σ _ hp=>by simp [NZ] at hp⟩
end Go.Ab
namespace Go.Ab
open Go.RowKit
variable {P:Program} {base N:Nat} {g g':Gh} {Pr:Nat→Prop} {σ σ':AM} {w0 w w':World} {lam:Nat→Option Nat} {F:Fm} {L:Lm} {a:Act} {K:C6} {d:Nat} {z:List AV}
theorem VR.BQ {x:AV} {v:Value} (h:VR g x v) (d:Nat):x.BQ d=false:=by cases h<;>rfl
theorem WB {x:AV} (h:x.Av=true) (d:Nat):x.BQ d=false:=by cases x<;>first|rfl|(cases h;done)
theorem dU {x:AV} (h:x.CU=true) (d:Nat):x.BQ d=false:=by cases x<;>first|rfl|(cases h;done)
theorem AQ.BQ {f:FuncId} {args:List AV} {Q:AV→AM→Prop} (h:AQ P f args σ Q) (d:Nat):AQ P f args σ (fun v σ'=>Q v σ'∧v.BQ d=false):=
 fun base g Pr w0 w vs hr hv=>(h base g Pr w0 w vs hr hv).mono fun _ _ ⟨v,av,g',σ',a,b,c,d',e,q⟩=>⟨v,av,g',σ',a,b,c,d',e,q,b.BQ d⟩
def Off (d:Nat) (F:Fm):Prop:=∀s,(F s).BQ d=false
theorem Off.Ap (h:Off d F) {dst:Option Nat} {v:AV} (hv:v.BQ d=false):Off d (Ap dst v F):=by
 intro s
 cases dst with
 |none=>exact h s
 |some k=>
  simp only [Ab.Ap,Ab.put]
  split
  · exact hv
  · exact h s
theorem Off.DM (h:Off d F) (k:Nat):Off d (DM k F):=by
 intro s
 simp only [Ab.DM]
 split
 · rfl
 · exact h s
theorem Zt (d:Nat) (F:Fm):Off d (DM d F):=by
 intro s
 simp only [DM]
 split
 · rfl
 · rename_i h;simpa using h
def cOk:X→Bool
 | .t _=>true
 | .c v=>v.Av
theorem Si (h:Off d F) {x:X} (hx:cOk x=true):(xv F x).BQ d=false:=by
 cases x with
 |t n=>exact h n
 |c v=>exact WB hx d
def Sn:O→Bool
 | .mv x| .fld x _| .ld x _| .ldl x _| .nck x=>cOk x
 | .pick _ x y=>cOk x&&cOk y
 | .st x _ _=>cOk x
 |_=>true
theorem cA {k:Nat} (h:k≠d) (z:List AV) (L:Lm):B6 d z L k=L k:=by simp [B6,h]
theorem tR {p:AV} (hp:p.BQ d=false) (n:Option Nat):ldA (B6 d z L) σ p n=ldA L σ p n:=by
 cases p<;>try rfl
 · rename_i dx;cases dx<;>rfl
 rename_i k o
 have:k≠d:=by simpa [AV.BQ] using hp
 simp [ldA,cA this]
theorem qF {p:AV} (hp:p.BQ d=false) (n:Option Nat):bP (B6 d z L) p n=bP L p n:=by
 cases p<;>try rfl
 rename_i k o
 have:k≠d:=by simpa [AV.BQ] using hp
 simp [bP,cA this]
theorem yS (h:Off d F) {o:O} (hc:Sn o=true):pv F (B6 d z L) σ o=pv F L σ o:=by
 cases o<;>try rfl
 case ld x n=>exact tR (Si h hc) n
 case ldl x n=>exact qF (Si h hc) n
theorem Sv {cs:List AV} {o:Nat} {n:Option Nat} {v:AV} (h:rdC cs o n=some v):v.BQ d=false:=by
 cases n with
 |none=>
  simp only [rdC,AB] at h
  obtain ⟨v0,_,h⟩:=h
  obtain ⟨rfl,hc⟩:=UE h
  exact dU hc d
 |some n=>
  simp only [rdC] at h
  split at h
  · cases h;rfl
  · cases h
theorem pT {op:BinOp} {k:IntKind} {x y:Int} {v:AV} (h:mA op k x y=some v):v.BQ d=false:=by
 unfold mA at h
 split at h<;>first|(cases h;rfl)|(split at h<;>first|(cases h;done)|(cases h;rfl))|(cases h;done)
theorem r4 {op:BinOp} {x y:List UInt8} {v:AV} (h:cN op x y=some v):v.BQ d=false:=by
 unfold cN at h
 split at h<;>first|(cases h;rfl)|(split at h<;>first|(cases h;done)|(cases h;rfl))|(cases h;done)
theorem kG {b:Bool} {x y v:AV} (h:mmA b x y=some v):v.BQ d=false:=by
 unfold mmA at h
 split at h
 · split at h
   · cases h;rfl
   · cases h
 · cases h
theorem bJ {rows:List (List DV)} {m:Int} {n:Nat} {v:AV} (h:ixR rows m n=some v):v.BQ d=false:=by
 unfold ixR at h
 split at h
 · simp only [AB] at h
   obtain ⟨r,_,h⟩:=h
   split at h
   · cases h;rfl
   · cases h
 · cases h
theorem tG {k:EK} {args:List AV} {v:AV} (h:exP k args=some v):v.BQ d=false:=by
 obtain ⟨_,h⟩:=XN h
 unfold Th at h
 split at h
 · cases h;rfl
 · simp only [AK] at h;obtain ⟨_,_,rfl⟩:=h;rfl
 · simp only [AK] at h;obtain ⟨_,_,rfl⟩:=h;rfl
 · cases h
theorem vB (h:Off d F) {o:O} (hc:Sn o=true) {v:AV} (hv:pv F L σ o=some v):v.BQ d=false:=by
 cases o<;>simp only [pv] at hv<;>try (cases hv;done)
 case mv x=>cases hv;exact Si h hc
 case ex k xs=>exact tG hv
 case pick c x y=>
  simp only [Sn,AN] at hc
  unfold eR at hv
  split at hv
  · cases hv;split
    · exact Si h hc.1
    · exact Si h hc.2
  · cases hv
 case fld x off=>
  have hx:=Si h hc
  generalize xv F x=p at hv hx
  cases p<;>simp only [gT] at hv<;>try (cases hv;done)
  · rename_i dx;cases dx<;>simp only at hv<;>first|(cases hv;done)|(cases hv;rfl)
  · cases hv;exact hx
  · cases hv;rfl
  · cases hv;rfl
 case ld x n=>
  generalize xv F x=p at hv
  cases p<;>simp only [ldA] at hv<;>try (cases hv;done)
  · rename_i dx;cases dx<;>simp only at hv<;>first|(cases hv;done)|exact Sv hv
  · simp only [AB] at hv;obtain ⟨_,_,hv⟩:=hv;exact Sv hv
  · simp only [AB] at hv;obtain ⟨_,_,hv⟩:=hv;exact Sv hv
  · exact Sv hv
 case ldl x n=>
  generalize xv F x=p at hv
  cases p<;>simp only [bP] at hv<;>try (cases hv;done)
  simp only [AB] at hv;obtain ⟨_,_,hv⟩:=hv;exact Sv hv
 case ix x i n=>
  unfold ixA at hv
  split at hv
  · split at hv
    · cases hv;rfl
    · cases hv
  · split at hv
    · cases hv;rfl
    · cases hv
  · exact bJ hv
  · exact bJ hv
  · exact bJ hv
  · cases hv
 case Yh x i=>
  unfold Yi at hv
  split at hv
  · split at hv
    · simp only [AK] at hv;obtain ⟨_,_,rfl⟩:=hv;rfl
    · cases hv
  · cases hv
 case len x=>
  unfold TO at hv
  split at hv<;>first|(cases hv;rfl)|(cases hv;done)
 case Mm x=>
  unfold aE at hv
  split at hv<;>first|(cases hv;rfl)|(cases hv;done)
 case bin op x y=>
  unfold lG at hv
  split at hv
  · split at hv
    · exact pT hv
    · cases hv
  · exact r4 hv
  · cases hv
 case gA op x y=>
  unfold Zf at hv
  split at hv<;>first|(cases hv;rfl)|(cases hv;done)
 case un op x=>
  unfold unA at hv
  split at hv<;>first|(cases hv;rfl)|(cases hv;done)
 case conv k x=>
  unfold Zj at hv
  split at hv<;>first|(cases hv;rfl)|(cases hv;done)
 case bld z ps=>simp only [AK] at hv;obtain ⟨_,_,rfl⟩:=hv;rfl
 case bsl s n z ps=>simp only [AK] at hv;obtain ⟨_,_,rfl⟩:=hv;rfl
 case mkf f x y=>
  split at hv
  · cases hv;rfl
  · cases hv
 case ext x i=>
  unfold lS at hv
  split at hv
  · simp only [AB] at hv
    obtain ⟨v0,_,hv⟩:=hv
    obtain ⟨rfl,hn⟩:=YR hv
    exact WB hn d
  · cases hv
 case nck x=>
  have hx:=Si h hc
  generalize xv F x=p at hv hx
  cases p<;>simp only [qV] at hv<;>try (cases hv;done)
  · rename_i dx;cases dx<;>simp only at hv<;>first|(cases hv;done)|(cases hv;rfl)
  · cases hv;exact hx
  · cases hv;rfl
  · cases hv;rfl
 case mm b x y=>exact kG hv
 case fd x off n=>
  generalize xv F x=p at hv
  cases p<;>simp only [fdA] at hv<;>try (cases hv;done)
  exact Sv hv
 case ssl x lo hi=>
  unfold XK at hv
  split at hv
  · simp only [AK] at hv;obtain ⟨_,_,rfl⟩:=hv;rfl
  · cases hv
 case sls x lo hi mx n=>
  unfold nS at hv
  split at hv
  · split at hv
    · cases hv;rfl
    · cases hv
  · simp only [AB] at hv
    obtain ⟨_,_,hv⟩:=hv
    split at hv
    · cases hv;rfl
    · cases hv
  · simp only [AB] at hv
    obtain ⟨_,_,hv⟩:=hv
    split at hv
    · cases hv;rfl
    · cases hv
  simp only [AB] at hv
  obtain ⟨rows,_,hv⟩:=hv
  unfold cK at hv
  split at hv
  · simp only [AB] at hv
    obtain ⟨b,_,hv⟩:=hv
    split at hv
    · cases hv;rfl
    · split at hv
      · cases hv;rfl
      · cases hv
    · cases hv
  · cases hv
 case iK ne x=>
  unfold aA at hv
  split at hv<;>first|(cases hv;rfl)|(cases hv;done)
 case iZ ne n x y=>
  unfold aF at hv
  split at hv
  · split at hv
    · simp only [AK] at hv;obtain ⟨_,_,rfl⟩:=hv;rfl
    · cases hv
  · cases hv
 case mm3 b x y z=>
  simp only [AB] at hv
  obtain ⟨_,_,hv⟩:=hv
  exact kG hv
 case oY x=>simp only [AK] at hv;obtain ⟨_,_,rfl⟩:=hv;rfl
theorem EA {dst:Option Nat} (h:dst≠some d) (v x:AV) (F:Fm):Ap dst v (put d x F)=put d x (Ap dst v F):=
 WL (d:=dst) (e:=some d) (fun k hk he=>h (by rw [hk,he])) v x F
theorem SY {k:Nat} (h:d≠k) (F:Fm):DM k (put d (.lp d 0) F)=put d (.lp d 0) (DM k F):=by
 funext s
 simp only [DM,put]
 by_cases e:s=d
 · subst e;simp [AV.BQ,h]
 · simp [e]
theorem WK {k:Nat} (h:k≠d) (x y:List AV) (L:Lm):B6 k x (B6 d y L)=B6 d y (B6 k x L):=by
 funext s
 simp only [B6]
 by_cases e:s=k
 · subst e;simp [h]
 · simp [e]
theorem wV {o:O} {dst:Option Nat} (hN:Off d F) (hc:Sn o=true) (hl:∀s∈J4 o,s≠d) (hd:dst≠some d) (hx:XO P dst K (put d (.lp d 0) F) (B6 d z L) σ o):
 XO P dst (fun F' L' σ'=>Off d F'∧K (put d (.lp d 0) F') (B6 d z L') σ') F L σ o:=by
 have hF:∀s∈J4 o,put d (.lp d 0) F s=F s:=fun s hs=>by simp [put,hl s hs]
 by_cases hV:isV o=true
 · rw [k7 hV] at hx ⊢
   obtain ⟨u,h1,h2⟩:=hx
   have h1:=Xc hF h1
   have h3:Yv P F L σ u o∧u.BQ d=false:=by
    cases o<;>try (cases hV;done)
    case Wd f args=>exact ⟨h1,WB h1.2.1 d⟩
    all_goals
     simp only [Yv] at h1 ⊢
     rw [yS hN hc] at h1
     exact ⟨h1,vB hN hc h1⟩
   refine ⟨u,h3.1,hN.Ap h3.2,?_⟩
   rw [← EA hd];exact h2
 · cases o<;>simp only [isV,not_true_eq_false] at hV<;>simp only [J4,BN] at hF
   case box x sh=>
    simp only [XO,TB] at hx ⊢
    rw [← BB hF]
    refine ⟨hx.1,?_⟩
    have hx:=hx.2
    cases dst with
    |none=>exact hx.elim
    |some e=>
     have hne:d≠e:=fun h=>hd (by rw [h])
     cases sh with
     |true=>exact fun i hi=>⟨hN.Ap (dst:=some e) (v:= .gp i 0) rfl,by have:=hx i hi;rw [show put e (.gp i 0) (put d (.lp d 0) F)=put d (.lp d 0) (put e (.gp i 0) F) from EA (dst:=some e) hd _ _ _] at this;exact this⟩
     |false=>
      refine ⟨(hN.DM e).Ap (dst:=some e) (v:= .lp e 0) (by simp [AV.BQ];exact Ne.symm hne),?_⟩
      have hx:K (put e (.lp e 0) (DM e (put d (.lp d 0) F))) (B6 e (xv (put d (.lp d 0) F) x).cells (B6 d z L)) σ:=hx
      rw [SY hne,WK (Ne.symm hne),show put e (.lp e 0) (put d (.lp d 0) (DM e F))=put d (.lp d 0) (put e (.lp e 0) (DM e F)) from EA (dst:=some e) hd _ _ _] at hx
      exact hx
   case al y sh=>
    simp only [XO,TB] at hx ⊢
    refine ⟨hx.1,?_⟩
    have hx:=hx.2
    cases dst with
    |none=>exact hx.elim
    |some e=>
     have hne:d≠e:=fun h=>hd (by rw [h])
     cases sh with
     |true=>exact fun i hi=>⟨hN.Ap (dst:=some e) (v:= .gp i 0) rfl,by have:=hx i hi;rw [show put e (.gp i 0) (put d (.lp d 0) F)=put d (.lp d 0) (put e (.gp i 0) F) from EA (dst:=some e) hd _ _ _] at this;exact this⟩
     |false=>
      refine ⟨(hN.DM e).Ap (dst:=some e) (v:= .lp e 0) (by simp [AV.BQ];exact Ne.symm hne),?_⟩
      have hx:K (put e (.lp e 0) (DM e (put d (.lp d 0) F))) (B6 e y (B6 d z L)) σ:=hx
      rw [SY hne,WK (Ne.symm hne),show put e (.lp e 0) (put d (.lp d 0) (DM e F))=put d (.lp d 0) (put e (.lp e 0) (DM e F)) from EA (dst:=some e) hd _ _ _] at hx
      exact hx
   case st x y n=>
    simp only [XO,XSt] at hx ⊢
    rw [BB (F:=put d (.lp d 0) F) (F':=F) (fun s hs=>hF s (.inl hs)),BB (F:=put d (.lp d 0) F) (F':=F) (fun s hs=>hF s (.inr hs))] at hx
    obtain ⟨h1,h2,h3,h4⟩:=hx
    refine ⟨h1,h2,h3,?_⟩
    have hp:=Si hN hc
    generalize xv F x=p at hp h4
    cases p<;>simp only [stA] at h4 ⊢<;>try (exact h4.elim)
    · rename_i k o2
      have hk:k≠d:=by simpa [AV.BQ] using hp
      rw [cA hk] at h4
      cases hL:L k with
      |none=>rw [hL] at h4;exact h4.elim
      |some cs=>
       rw [hL] at h4
       simp only [B3] at h4 ⊢
       by_cases hle:o2+(xv F y).cells.length≤cs.length
       · rw [if_pos hle] at h4 ⊢
         refine ⟨hN,?_⟩
         have h4:K (put d (.lp d 0) F) (B6 k (wr cs o2 (xv F y).cells) (B6 d z L)) σ:=h4
         rw [WK hk] at h4;exact h4
       · rw [if_neg hle] at h4;exact h4.elim
    · rename_i i o2
      cases hb:σ.blk i with
      |none=>rw [hb] at h4;exact h4.elim
      |some cs=>
       rw [hb] at h4
       simp only [B3] at h4 ⊢
       by_cases hle:o2+(xv F y).cells.length≤cs.length
       · rw [if_pos hle] at h4 ⊢;exact ⟨hN,h4⟩
       · rw [if_neg hle] at h4;exact h4.elim
   case msl e s b y l c=>
    obtain ⟨k,k',n,h1,h2,h3,h4,h5,h6⟩:=hx
    refine ⟨k,k',n,by rw [← BB (fun s hs=>hF s (.inl hs))];exact h1,by rw [← BB (fun s hs=>hF s (.inr hs))];exact h2,h3,h4,h5,fun i hi=>⟨hN.Ap rfl,?_⟩⟩
    rw [← EA hd];exact h6 i hi
   case app e s b x y=>
    rcases hx with ⟨rows,σ1,srows,h1,h2,h3,h4,h5,h6⟩|⟨rows,srows,h1,h2,h3,h4,h5,h6,h7⟩
    · refine .inl ⟨rows,σ1,srows,by rw [← BB (fun s hs=>hF s (.inl hs))];exact h1,by rw [← BB (fun s hs=>hF s (.inr hs))];exact h2,h3,h4,h5,fun t ht=>⟨hN.Ap rfl,?_⟩⟩
      rw [← EA hd];exact h6 t ht
    · refine .inr ⟨rows,srows,by rw [← BB (fun s hs=>hF s (.inl hs))];exact h1,by rw [← BB (fun s hs=>hF s (.inr hs))];exact h2,h3,h4,h5,h6,⟨hN.Ap rfl,?_⟩⟩
      rw [← EA hd];exact h7
   case ZH e s b x y=>
    obtain ⟨n,cs,σ1,srows,h1,h2,h3,h4,h5,h6,h7⟩:=hx
    refine ⟨n,cs,σ1,srows,by rw [← BB (fun s hs=>hF s (.inl hs))];exact h1,by rw [← BB (fun s hs=>hF s (.inr hs))];exact h2,h3,fun e=>⟨hN.Ap ?_,?_⟩,h5,h6,fun e t ht=>⟨hN.Ap rfl,?_⟩⟩
    · unfold T4 at h1
      rw [← BB (fun s hs=>hF s (.inl hs))]
      generalize xv _ x=xx at h1
      cases xx<;>first|rfl|(cases h1;done)
    · rw [← EA hd,← BB (fun s hs=>hF s (.inl hs))];exact h4 e
    · rw [← EA hd];exact h7 e t ht
   case trn x y=>
    obtain ⟨k,s,e,cs,σ1,h1,h2⟩:=hx
    refine ⟨k,s,e,cs,σ1,by rw [← BB (fun s hs=>hF s (.inl hs)),← BB (fun s hs=>hF s (.inr hs))];exact h1,fun t ht=>⟨hN.Ap rfl,?_⟩⟩
    rw [← EA hd];exact h2 t ht
   case Mt e s l y ps=>
    obtain ⟨cs,h1,h2⟩:=hx
    refine ⟨cs,by rw [← OE _ _ hF];exact h1,h2.imp (fun h2 t ht=>⟨hN.Ap rfl,?_⟩) fun ⟨ds,h3,h4,h5⟩=>⟨ds,h3,h4,fun t ht=>⟨hN.Ap rfl,?_⟩⟩⟩
    · rw [← EA hd];exact h2 t ht
    · rw [← EA hd];exact h5 t ht
   case call f args=>
    obtain ⟨h1,R,h2,h3⟩:=hx
    rw [Ga hF] at h1 h2
    refine ⟨h1,_,h2.BQ d,fun u σ' hv=>⟨hN.Ap hv.2,?_⟩⟩
    rw [← EA hd];exact h3 u σ' hv.1
   case DI x args=>
    obtain ⟨f,first,caps,h0,hb,h1,R,h2,h3⟩:=hx
    rw [Ga (fun s hs=>hF s (.inr hs))] at h1 h2
    refine ⟨f,first,caps,by rw [← BB (fun s hs=>hF s (.inl hs))];exact h0,hb,h1,_,h2.BQ d,fun u σ' hv=>⟨hN.Ap hv.2,?_⟩⟩
    rw [← EA hd];exact h3 u σ' hv.1
   case ex k xs=>
    simp only [XO,XEx,hV,A1,if_false] at hx ⊢
    rw [Ga hF] at hx
    refine ⟨hx.1,hx.2.mono fun u σ' hu hv=>⟨hN.Ap (hu d),?_⟩⟩
    rw [← EA hd];exact hv
theorem wX {q:Q} (hN:Off d F) (hc:Sn q.o=true) (hl:∀s∈q.looks,s≠d) (hd:q.dst≠some d) (hx:XQ P q K (put d (.lp d 0) F) (B6 d z L) σ):
 XQ P q (fun F' L' σ'=>Off d F'∧K (put d (.lp d 0) F') (B6 d z L') σ') F L σ:=by
 have h1:∀s∈J4 q.o,s≠d:=fun s hs=>hl s (by simp [Q.looks,hs])
 unfold XQ at hx ⊢
 rw [Xv (F:=put d (.lp d 0) F) (F':=F) (fun s hs=>by simp [put,hl s hs])] at hx
 cases hc2:gd F q.grd with
 |none=>rw [hc2] at hx;exact hx.elim
 |some b=>
  rw [hc2] at hx
  cases b
  · have hx:K (Ap q.dst (.tup []) (put d (.lp d 0) F)) (B6 d z L) σ:=hx
    rw [EA hd] at hx
    exact ⟨hN.Ap rfl,hx⟩
  · exact wV hN hc h1 hd hx
theorem nM (h:Off d F):DM d F=F:=by
 funext s
 simp [DM,h s]
def wK (tab:Array Nat) (qs:List Q) (i d:Nat):Bool:=
 qs.zipIdx.all fun (qj,j)=>j==i||(tab.getD j 0).testBit i||(Sn qj.o&& !qj.looks.contains d&&qj.dst != some d)
theorem vO {ops:Array Oper} {tab:Array Nat} (htab:∀j i,(tab.getD j 0).testBit i=true→Anc ops j i) {qs:List Q} {i:Nat} (hi:qs[i]?=some ⟨some d,.al z false,none⟩) (hz:Ag z=true) (hlay:wK tab qs i d=true):
 ∀(fuel:Nat) (listed:Array Bool) (F:Fm) (L:Lm) (σ:AM),JB ops listed→listed.size=ops.size→i∈Region.ready .any ops listed→Off d F→
  V9 P ops qs K fuel (listed.setIfInBounds i true) (put d (.lp d 0) F) (B6 d z L) σ→V9 P ops qs K (fuel+1) listed F L σ:=by
 have hself:∀(K2:C6) (F:Fm) (L:Lm) (σ:AM),Off d F→K2 (put d (.lp d 0) F) (B6 d z L) σ→XQ P ⟨some d,.al z false,none⟩ K2 F L σ:=fun K2 F L σ hN h=>by
  show TB z false (some d) K2 F L σ
  refine ⟨hz,?_⟩
  show K2 (put d (.lp d 0) (DM d F)) (B6 d z L) σ
  rw [nM hN];exact h
 intro fuel
 induction fuel with
 |zero=>
  intro listed F L σ hcl hsz hr hN H
  refine ⟨fun h=>(by rw [h] at hr;cases hr),fun j hj=>?_⟩
  by_cases hji:i=j
  · subst hji;exact ⟨_,hi,hself _ _ _ _ hN H⟩
  · have:=PO hj hji
    rw [H.1] at this;cases this
 |succ fuel ih=>
  intro listed F L σ hcl hsz hr hN H
  refine ⟨fun h=>(by rw [h] at hr;cases hr),fun j hj=>?_⟩
  by_cases hji:i=j
  · subst hji;exact ⟨_,hi,hself _ _ _ _ hN H⟩
  · obtain ⟨qj,hqj,hxj⟩:=H.2 j (PO hj hji)
    obtain ⟨hjlt,hjun,oj,hoj,hjall⟩:=Kn.1 hj
    have hiun:=(Kn.1 hr).2.1
    have hilt:=(Kn.1 hr).1
    have hmem:(qj,j)∈qs.zipIdx:=by rw [TA];exact hqj
    have hb:=A5.1 hlay (qj,j) hmem
    simp only [BM,beq_iff_eq,AN,E2,bne_iff_ne] at hb
    rcases hb with (hb|hanc)|⟨⟨hc,hlk⟩,hdst⟩
    · exact absurd hb.symm hji
    · have h1:=Xe hcl (htab j i hanc) (fun o ho=>by rw [hoj] at ho;cases ho;exact hjall)
      rw [Ch,ME (by omega)] at h1 hiun
      simp at h1 hiun
      rw [h1] at hiun;cases hiun
    · refine ⟨qj,hqj,?_⟩
      have hlk':∀s∈qj.looks,s≠d:=fun s hs he=>by subst he;rw [← Bool.not_eq_true,BX] at hlk;exact hlk hs
      have hcomm:(listed.setIfInBounds i true).setIfInBounds j true=(listed.setIfInBounds j true).setIfInBounds i true:=Array.setIfInBounds_comm _ _ hji
      refine Tw (fun F' L' σ' h=>?_) (wX hN hc hlk' hdst hxj)
      refine ih _ F' L' σ' (hcl.set hj) (by simpa using hsz) (PO hr (Ne.symm hji)) h.1 ?_
      rw [← hcomm];exact h.2
def O6:List Nat→Fm→Fm
 |[],F=>F
 |d::ds,F=>O6 ds (DM d F)
theorem Wf:∀(ds:List Nat) (F:Fm) (s:Nat),O6 ds F s=F s∨O6 ds F s= .undef
 |[],F,s=>.inl rfl
 |d::ds,F,s=>by
  rcases Wf ds (DM d F) s with h|h
  · rw [O6,h];simp only [DM];split<;>simp
  · exact .inr h
theorem YZ:∀(ds:List Nat) (F:Fm) (d:Nat),(d∈ds∨Off d F)→Off d (O6 ds F)
 |[],F,d,h=>by
  rcases h with h|h
  · cases h
  · exact h
 |e::ds,F,d,h=>by
  refine YZ ds (DM e F) d ?_
  rcases h with h|h
  · cases h with
    |head=>exact .inr (Zt _ F)
    |tail _ h=>exact .inl h
  · exact .inr (h.DM e)
theorem Y0:∀(ds:List Nat) (F:Fm) (d:Nat),d ∉ ds→O6 ds (put d (.lp d 0) F)=put d (.lp d 0) (O6 ds F)
 |[],F,d,_=>rfl
 |e::ds,F,d,h=>by
  simp only [CN,not_or] at h
  simp only [O6]
  rw [SY h.1,Y0 ds _ d h.2]
def P9:PT→List Nat×PT
 | .lay i t=>(i::(P9 t).1,(P9 t).2)
 |t=>([],t)
def qD (qs:List Q):List Nat→Option (List (Nat×Nat×List AV))
 |[]=>some []
 |i::l=>match qs[i]? with
  |some ⟨some d,.al z false,none⟩=>if Ag z then (qD qs l).map ((i,d,z)::·) else none
  |_=>none
def Vu (ops:Array Oper) (tab:Array Nat) (qs:List Q):List (Nat×Nat×List AV)→Array Bool→Bool
 |[],_=>true
 |(i,d,_)::r,listed=>(Region.ready .any ops listed).contains i&&wK tab qs i d&& !(r.map (·.2.1)).contains d&&Vu ops tab qs r (listed.setIfInBounds i true)
def Yf:List Nat→Array Bool→Array Bool
 |[],a=>a
 |i::l,a=>Yf l (a.setIfInBounds i true)
def yB:List (Nat×Nat×List AV)→Fm→Fm
 |[],F=>F
 |(_,d,_)::r,F=>yB r (put d (.lp d 0) (DM d F))
def yC:List (Nat×Nat×List AV)→Lm→Lm
 |[],L=>L
 |(_,d,z)::r,L=>yC r (B6 d z L)
theorem aO {ops:Array Oper} {tab:Array Nat} (htab:∀j i,(tab.getD j 0).testBit i=true→Anc ops j i) {qs:List Q} {n:Nat}:∀(ls:List (Nat×Nat×List AV)) (listed:Array Bool) (F:Fm) (L:Lm) (σ:AM),
 (∀x∈ls,qs[x.1]?=some ⟨some x.2.1,.al x.2.2 false,none⟩∧Ag x.2.2=true)→Vu ops tab qs ls listed=true→JB ops listed→listed.size=ops.size→
 V9 P ops qs K n (Yf (ls.map (·.1)) listed) (yB ls F) (yC ls L) σ→V9 P ops qs K (n+ls.length) listed (O6 (ls.map (·.2.1)) F) L σ
 |[],listed,F,L,σ,_,_,_,_,h=>h
 |(i,d,z)::r,listed,F,L,σ,hq,hok,hcl,hsz,h=>by
  simp only [Vu,AN,BX,E2] at hok
  obtain ⟨⟨⟨hr,hlay⟩,hnd⟩,hrest⟩:=hok
  have hnd':d ∉ r.map (·.2.1):=fun hm=>by rw [← Bool.not_eq_true,BX] at hnd;exact hnd hm
  obtain ⟨hi,hz⟩:=hq (i,d,z) (by simp)
  have ih:=aO htab (n:=n) r (listed.setIfInBounds i true) (put d (.lp d 0) (DM d F)) (B6 d z L) σ (fun x hx=>hq x (by simp [hx])) hrest (hcl.set hr) (by simpa using hsz) h
  rw [Y0 _ _ _ hnd'] at ih
  exact vO htab hi hz hlay (n+r.length) listed _ L σ hcl hsz hr (YZ (r.map (·.2.1)) (DM d F) d (.inr (Zt d F))) ih
theorem Tr {ops:Array Oper} {tab:Array Nat} {qs:List Q}:∀(ls:List (Nat×Nat×List AV)) (listed:Array Bool),Vu ops tab qs ls listed=true→JB ops listed→listed.size=ops.size→JB ops (Yf (ls.map (·.1)) listed)∧(Yf (ls.map (·.1)) listed).size=ops.size
 |[],listed,_,hc,hs=>⟨hc,hs⟩
 |(i,d,z)::r,listed,hok,hcl,hsz=>by
  simp only [Vu,AN,BX] at hok
  exact Tr r _ hok.2 (hcl.set hok.1.1.1) (by simpa using hsz)
def kO (ls:List (Nat×Nat×List AV)) (t:QT):QT:=ls.foldr (fun x acc=>.one ⟨some x.2.1,.al x.2.2 false,none⟩ acc) t
theorem eS:∀(ls:List (Nat×Nat×List AV)) (t:QT) (F:Fm) (L:Lm),XT P K false (kO ls t) F L σ→XT P K false t (yB ls F) (yC ls L) σ
 |[],t,F,L,h=>h
 |(i,d,z)::r,t,F,L,h=>by
  have h:XQ P ⟨some d,.al z false,none⟩ (XT P K false (kO r t)) F L σ:=h
  have h:TB z false (some d) (XT P K false (kO r t)) F L σ:=h
  exact eS r t _ _ h.2
def Xq (P:Program) (N:Nat) (esc:List Nat) (pf:List FuncId) (pt:PT) (ops:Array Oper):Option QT:=do
 let qs ← NG P N esc ops (Ir ops.size)
 let qs:=qs.map (toP pf)
 let tab:=Vb ops.toList #[]
 let ls ← qD qs (P9 pt).1
 let l0:=Eh ops.size false
 if Vu ops tab qs ls l0&&NZ ops tab qs (P9 pt).2 (Yf (ls.map (·.1)) l0) none&&decide ((P9 pt).2.depth+ls.length≤ops.size) then (VX qs (P9 pt).2).map (kO ls) else none
theorem Zr {qs:List Q}:∀(l:List Nat) (ls:List (Nat×Nat×List AV)),qD qs l=some ls→∀x∈ls,qs[x.1]?=some ⟨some x.2.1,.al x.2.2 false,none⟩∧Ag x.2.2=true
 |[],ls,h,x,hx=>by simp only [qD,AR] at h;subst h;cases hx
 |i::l,ls,h,x,hx=>by
  simp only [qD] at h
  split at h
  · rename_i d z hq
    split at h
    · rename_i hz
      simp only [AK] at h
      obtain ⟨r,hr,rfl⟩:=h
      cases hx with
      |head=>exact ⟨hq,hz⟩
      |tail _ hx=>exact Zr l r hr x hx
    · cases h
  · cases h
theorem Z8 {ops:Array Oper} {qs:List Q}:∀(n m:Nat) (listed:Array Bool) (F:Fm) (L:Lm) (σ:AM),n≤m→V9 P ops qs K n listed F L σ→V9 P ops qs K m listed F L σ
 |0,0,listed,F,L,σ,_,h=>h
 |0,m+1,listed,F,L,σ,_,h=>⟨fun _=>h.2,fun i hi=>by rw [h.1] at hi;cases hi⟩
 |n+1,0,listed,F,L,σ,hle,h=>by omega
 |n+1,m+1,listed,F,L,σ,hle,h=>⟨h.1,fun i hi=>by
  obtain ⟨q,hq,hx⟩:=h.2 i hi
  exact ⟨q,hq,Tw (fun F L σ h=>Z8 n m _ F L σ (by omega) h) hx⟩⟩
theorem BT.AAU (h:BT base g lam Pr N F L σ a w0 w) {F':Fm} (hF:∀s,F' s=F s∨F' s= .undef):BT base g lam Pr N F' L σ a w0 w:=by
 refine ⟨fun s=>?_,h.sz,h.df,h.loc,h.inj,h.npr,h.rel⟩
 rcases hF s with e|e
 · rw [e];exact h.tm s
 · rw [e];exact VR.undef
theorem W5 {ops:Array Oper} {esc:List Nat} {pf:List FuncId} {pt:PT} {qt:QT} (hm:P.follows .mixedOrders=true) (hc:Xq P N esc pf pt ops=some qt) (hx:XT P K false qt F L σ)
 (h:BT base g lam Pr N F L σ a w0 w) {id:Nat}:(Code.region id ops true).wp P (fun e a' w'=>e= .normal∧FD base Pr N w0 g w K a' w') a w:=by
 simp only [Xq,AS,AB] at hc
 obtain ⟨qs0,hq0,ls,hls,hc⟩:=hc
 split at hc
 case isFalse=>cases hc
 rename_i hp
 simp only [AN,decide_eq_true_eq] at hp
 simp only [AK] at hc
 obtain ⟨t,ht,rfl⟩:=hc
 have hcl:JB ops (Eh ops.size false):=by
  intro j o ho hj
  have:(Eh ops.size false).getD j false=false:=by
   simp only [Ch,Array.getElem?_replicate];split<;>rfl
  rw [this] at hj;cases hj
 obtain ⟨hcl2,hsz2⟩:=Tr ls _ hp.1.1 hcl (by simp)
 have hx2:=eS ls t F L hx
 have hany1:=(X1 (P:=P) (K:=K) (fun j i=>WU) _ t ht).1 _ _ _ _ σ (A8 _) hp.1.2 hcl2 hsz2 hx2
 have hany2:=aO (P:=P) (K:=K) (tab:=Vb ops.toList #[]) (fun j i=>WU) ls _ F L σ (Zr _ ls hls) hp.1.1 hcl (by simp) hany1
 have hany:=Z8 _ ops.size _ _ _ _ hp.2 hany2
 refine wp_region_any hm ?_
 have hF:=h.AAU (Wf (ls.map (·.2.1)) F)
 have hdrew:BT base g lam Pr N (O6 (ls.map (·.2.1)) F) L σ a w0 { w with drawn:=w.drawn+1}:=
  hF.step (w':=w.drew) (Gh.le_refl g) (fun k b hb=>rfl) (hF.rel.grow (w':=w.drew) (A8 _) (fun _ _ _=>rfl) ((Below.refl base w).drew) (fun b hb=>⟨(hF.rel.pr b hb).1,.inl hb⟩))
 exact U9 hq0 K _ _ base g lam Pr _ L σ a w0 _ hany hdrew (fun a' w' hA=>⟨rfl,FD.trans (Gh.le_refl g) ⟨A8 _,fun _ _=>rfl⟩ hA⟩)
def lin:QT→Option (List Q)
 | .done=>some []
 | .one q t=>(lin t).map (q::·)
 | .alt _ _ _=>none
theorem qP:∀(t:QT) (ops:List Q) (F:Fm) (L:Lm) (σ:AM),lin t=some ops→BL P K ops F L σ→XT P K false t F L σ
 | .done,ops,F,L,σ,h,hx=>by simp only [lin,AR] at h;subst h;exact hx
 | .one q t,ops,F,L,σ,h,hx=>by
  simp only [lin,AK] at h
  obtain ⟨l,hl,rfl⟩:=h
  exact Tw (fun F L σ h=>qP t l F L σ hl h) hx
 | .alt _ _ _,ops,F,L,σ,h,_=>by simp [lin] at h
end Go.Ab
