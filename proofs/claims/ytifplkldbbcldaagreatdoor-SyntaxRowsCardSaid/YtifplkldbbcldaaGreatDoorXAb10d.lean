/- Regions that draw their order, continued: where operations do not commute, every order is looked at. Regions that draw their order, continued: new local variables may be laid first. Conditions: none. -/
import Derived.Test.YtifplkldbbcldaaGreatDoorXAb10b
set_option linter.unusedSimpArgs false
set_option linter.unusedVariables false
set_option maxRecDepth 4000
set_option maxHeartbeats 8000000
open Bool renaming false_eq_true→AU,and_eq_true→AL,or_eq_true→BM,not_eq_true'→CP,not_eq_true→Q4
open Option.some renaming injEq→AP
open List renaming all_eq_true→A5,contains_iff_mem→B5,mem_singleton→Ev,mem_zipIdx_iff_getElem?→Si,mem_append→BV,mem_cons→Bv,range→Ic
open Option renaming bind_eq_some_iff→AB,map_eq_some_iff→AK,getD_some→Q6,bind_some→B3,bind_eq_bind→AT
open Array renaming getD_eq_getD_getElem?→Ci,getElem?_eq_getElem→Lg,replicate→Eg
open Nat renaming le_refl→A7
namespace Go.Ab
open Go.RowKit
variable {P:Program} {base N:Nat} {g g':Gh} {Pr:Nat→Prop} {σ σ':AN} {w0 w w':World} {lam:Nat→Option Nat} {F:Fm} {L:Lm} {a:Act} {K:C5}
theorem fR {o:O} {dst:Option Nat} {K':C5} (hk:∀F L σ,K F L σ→K' F L σ) (hx:XO P dst K F L σ o):XO P dst K' F L σ o:=by
 by_cases hV:isV o=true
 · rw [lK hV] at hx ⊢
   obtain ⟨v,h1,h2⟩:=hx
   exact ⟨v,h1,hk _ _ _ h2⟩
 · cases o<;>simp only [isV,not_true_eq_false] at hV
   case box x sh=>
    simp only [XO,Sk] at hx ⊢
    refine ⟨hx.1,?_⟩
    have hx:=hx.2
    cases dst with
    |none=>exact hx.elim
    |some d=>cases sh with
     |true=>exact fun i hi=>hk _ _ _ (hx i hi)
     |false=>exact hk _ _ _ hx
   case al z sh=>
    simp only [XO,Sk] at hx ⊢
    refine ⟨hx.1,?_⟩
    have hx:=hx.2
    cases dst with
    |none=>exact hx.elim
    |some d=>cases sh with
     |true=>exact fun i hi=>hk _ _ _ (hx i hi)
     |false=>exact hk _ _ _ hx
   case st x v n=>
    simp only [XO,XSt] at hx ⊢
    obtain ⟨h1,h2,h3,h4⟩:=hx
    refine ⟨h1,h2,h3,?_⟩
    split at h4
    · exact hk _ _ _ h4
    · exact h4.elim
   case msl e s b z l c=>
    obtain ⟨k,k',n,h1,h2,h3,h4,h5,h6⟩:=hx
    exact ⟨k,k',n,h1,h2,h3,h4,h5,fun i hi=>hk _ _ _ (h6 i hi)⟩
   case Yw e s b x y=>
    obtain ⟨n,cs,σ1,srows,h1,h2,h3,h4,h5,h6,h7⟩:=hx
    exact ⟨n,cs,σ1,srows,h1,h2,h3,fun e=>hk _ _ _ (h4 e),h5,h6,fun e t ht=>hk _ _ _ (h7 e t ht)⟩
   case trn x y=>
    obtain ⟨k,s,e,cs,σ1,h1,h2⟩:=hx
    exact ⟨k,s,e,cs,σ1,h1,fun t ht=>hk _ _ _ (h2 t ht)⟩
   case M5 e s l z ps=>
    obtain ⟨cs,h1,h2⟩:=hx
    exact ⟨cs,h1,h2.imp (fun h2 t ht=>hk _ _ _ (h2 t ht)) fun ⟨ds,h3,h4,h5⟩=>⟨ds,h3,h4,fun t ht=>hk _ _ _ (h5 t ht)⟩⟩
   case app e s b x y=>
    rcases hx with ⟨rows,σ1,srows,h1,h2,h3,h4,h5,h6⟩|⟨rows,srows,h1,h2,h3,h4,h5,h6,h7⟩
    · exact .inl ⟨rows,σ1,srows,h1,h2,h3,h4,h5,fun t ht=>hk _ _ _ (h6 t ht)⟩
    · exact .inr ⟨rows,srows,h1,h2,h3,h4,h5,h6,hk _ _ _ h7⟩
   case call f args=>
    obtain ⟨h1,R,h2,h3⟩:=hx
    exact ⟨h1,R,h2,fun v σ' hv=>hk _ _ _ (h3 v σ' hv)⟩
   case EU x args=>
    obtain ⟨f,first,caps,h0,hb,h1,R,h2,h3⟩:=hx
    exact ⟨f,first,caps,h0,hb,h1,R,h2,fun v σ' hv=>hk _ _ _ (h3 v σ' hv)⟩
   case ex k xs=>
    simp only [XO,XEx,hV,AU,if_false] at hx ⊢
    exact ⟨hx.1,hx.2.mono fun v σ' _ hv=>hk _ _ _ hv⟩
theorem Tg {q:Q} {K':C5} (hk:∀F L σ,K F L σ→K' F L σ) (hx:XQ P q K F L σ):XQ P q K' F L σ:=by
 unfold XQ at hx ⊢
 cases hc:gd F q.grd with
 |none=>rw [hc] at hx;exact hx.elim
 |some b=>
  rw [hc] at hx
  cases b
  · exact hk _ _ _ hx
  · exact fR hk hx
inductive PT where
 |done
 |one (i:Nat) (t:PT)
 |alt (i:Nat) (t r:PT)
 |lay (i:Nat) (t:PT)
inductive QT where
 |done
 |one (q:Q) (t:QT)
 |alt (q:Q) (t r:QT)
def XT (P:Program) (K:C5):Bool→QT→C5
 |false,.done=>K
 |true,.done=>fun _ _ _=>True
 |_,.one q t=>XQ P q (XT P K false t)
 |_,.alt q t r=>fun F L σ=>XQ P q (XT P K false t) F L σ∧XT P K true r F L σ
def PT.depth:PT→Nat
 | .done=>0
 | .one _ t=>t.depth+1
 | .alt _ t r=>max (t.depth+1) r.depth
 | .lay _ t=>t.depth+1
def Uu (qs:List Q):PT→Option QT
 | .done=>some .done
 | .one i t=>(qs[i]?).bind fun q=>(Uu qs t).map (.one q ·)
 | .alt i t r=>(qs[i]?).bind fun q=>(Uu qs t).bind fun t'=>(Uu qs r).map (.alt q t' ·)
 | .lay i t=>(qs[i]?).bind fun q=>(Uu qs t).map (.one q ·)
def Mx (ops:Array Oper) (tab:Array Nat) (qs:List Q):PT→Array Bool→Option (List Nat)→Bool
 | .done,listed,none=>(Region.ready .any ops listed).isEmpty
 | .done,listed,some l=>(Region.ready .any ops listed).all (l.contains ·)
 | .one i t,listed,none=>(Region.ready .any ops listed).contains i&&(Region.ready .any ops listed==[i]||Ww tab qs listed i)&&Mx ops tab qs t (listed.setIfInBounds i true) none
 | .one i t,listed,some l=>(Region.ready .any ops listed).contains i&&(Region.ready .any ops listed).all (fun j=>j==i||l.contains j)&&Mx ops tab qs t (listed.setIfInBounds i true) none
 | .alt i t r,listed,e=>(Region.ready .any ops listed).contains i&&Mx ops tab qs t (listed.setIfInBounds i true) none&&Mx ops tab qs r listed (some (i::e.getD []))
 | .lay _ _,_,_=>false
theorem XB {ops:Array Oper} {tab:Array Nat} (htab:∀j i,(tab.getD j 0).testBit i=true→Anc ops j i) {qs:List Q}:∀(t:PT) (qt:QT),Uu qs t=some qt→
 (∀n listed F L σ,t.depth≤n→Mx ops tab qs t listed none=true→Il ops listed→listed.size=ops.size→XT P K false qt F L σ→VH P ops qs K n listed F L σ)∧
 (∀n listed l F L σ,t.depth≤n+1→Mx ops tab qs t listed (some l)=true→Il ops listed→listed.size=ops.size→XT P K true qt F L σ→
   ∀j∈Region.ready .any ops listed,j ∉ l→∃q,qs[j]?=some q∧XQ P q (VH P ops qs K n (listed.setIfInBounds j true)) F L σ)
 | .done,qt,hp=>by
  simp only [Uu,AP] at hp;subst hp
  refine ⟨fun n listed F L σ _ hp _ _ hx=>?_,fun n listed l F L σ _ hp _ _ _ j hj hjl=>?_⟩
  · simp only [Mx,List.isEmpty_iff] at hp
    cases n with
    |zero=>exact ⟨hp,hx⟩
    |succ n=>exact ⟨fun _=>hx,fun i hi=>by rw [hp] at hi;cases hi⟩
  · simp only [Mx,A5,B5] at hp
    exact absurd (hp j hj) hjl
 | .one i t,qt,hp=>by
  simp only [Uu,AB,AK] at hp
  obtain ⟨q,hq,t',ht',rfl⟩:=hp
  obtain ⟨ih,_⟩:=XB htab t t' ht'
  refine ⟨fun n listed F L σ hd hp hcl hsz hx=>?_,fun n listed l F L σ hd hp hcl hsz hx j hj hjl=>?_⟩
  · simp only [PT.depth] at hd
    obtain ⟨m,rfl⟩:∃m,n=m+1:=⟨n - 1,by omega⟩
    simp only [Mx,AL,BM,B5,beq_iff_eq] at hp
    obtain ⟨⟨hr,hok⟩,hrest⟩:=hp
    have hx:XQ P q (XT P K false t') F L σ:=hx
    have ih':=fun F L σ=>ih m (listed.setIfInBounds i true) F L σ (by omega) hrest (hcl.set hr) (by simpa using hsz)
    rcases hok with hok|hok
    · refine ⟨fun h=>(by rw [h] at hr;cases hr),fun j hj=>?_⟩
      rw [hok] at hj
      simp only [Ev] at hj
      subst hj
      exact ⟨_,hq,Tg (fun F L σ h=>ih' F L σ h) hx⟩
    · unfold Ww at hok
      rw [hq] at hok
      simp only [AL,A5] at hok
      obtain ⟨v,hy,hk⟩:=(oX hok.1 _).1 hx
      refine Yp htab hq hok.1 m listed F L σ v hcl hsz (fun j qj hj hji hun=>?_) hr hy (ih' _ _ _ hk)
      have hmem:(qj,j)∈qs.zipIdx:=by
       rw [Si];exact hj
      have:=hok.2 (qj,j) hmem
      simp only [BM,beq_iff_eq] at this
      rcases this with (h|h)|h
      · exact absurd h hji
      · rw [hun] at h;cases h
      · exact h
  · simp only [PT.depth] at hd
    simp only [Mx,AL,A5,B5,BM,beq_iff_eq] at hp
    obtain ⟨⟨hr,hall⟩,hrest⟩:=hp
    have hx:XQ P q (XT P K false t') F L σ:=hx
    rcases hall j hj with rfl|h
    · exact ⟨q,hq,Tg (fun F L σ h=>ih n _ F L σ (by omega) hrest (hcl.set hr) (by simpa using hsz) h) hx⟩
    · exact absurd h hjl
 | .alt i t r,qt,hp=>by
  simp only [Uu,AB,AK] at hp
  obtain ⟨q,hq,t',ht',r',hr',rfl⟩:=hp
  obtain ⟨ih,_⟩:=XB htab t t' ht'
  obtain ⟨_,ihr⟩:=XB htab r r' hr'
  refine ⟨fun n listed F L σ hd hp hcl hsz hx=>?_,fun n listed l F L σ hd hp hcl hsz hx j hj hjl=>?_⟩
  · simp only [PT.depth] at hd
    obtain ⟨m,rfl⟩:∃m,n=m+1:=⟨n - 1,by omega⟩
    simp only [Mx,AL,B5,Option.getD_none] at hp
    obtain ⟨⟨hr,hrest⟩,hp2⟩:=hp
    obtain ⟨hx1,hx2⟩:=hx
    refine ⟨fun h=>(by rw [h] at hr;cases hr),fun j hj=>?_⟩
    by_cases hji:j=i
    · subst hji
      exact ⟨q,hq,Tg (fun F L σ h=>ih m _ F L σ (by omega) hrest (hcl.set hr) (by simpa using hsz) h) hx1⟩
    · exact ihr m listed [i] F L σ (by omega) hp2 hcl hsz hx2 j hj (by simpa using hji)
  · simp only [PT.depth] at hd
    simp only [Mx,AL,B5,Q6] at hp
    obtain ⟨⟨hr,hrest⟩,hp2⟩:=hp
    obtain ⟨hx1,hx2⟩:=hx
    by_cases hji:j=i
    · subst hji
      exact ⟨q,hq,Tg (fun F L σ h=>ih n _ F L σ (by omega) hrest (hcl.set hr) (by simpa using hsz) h) hx1⟩
    · exact ihr n listed (i::l) F L σ (by omega) hp2 hcl hsz hx2 j hj (by simp [hji,hjl])
 | .lay i t,qt,hp=>⟨fun n listed F L σ _ hp=>by simp [Mx] at hp,fun n listed l F L σ _ hp=>by simp [Mx] at hp⟩
end Go.Ab
namespace Go.Ab
open Go.RowKit
variable {P:Program} {base N:Nat} {g g':Gh} {Pr:Nat→Prop} {σ σ':AN} {w0 w w':World} {lam:Nat→Option Nat} {F:Fm} {L:Lm} {a:Act} {K:C5} {d:Nat} {z:List AV}
theorem VR.BT {x:AV} {v:Value} (h:VR g x v) (d:Nat):x.BT d=false:=by cases h<;>rfl
theorem Va {x:AV} (h:x.At=true) (d:Nat):x.BT d=false:=by cases x<;>first|rfl|(cases h;done)
theorem dK {x:AV} (h:x.CV=true) (d:Nat):x.BT d=false:=by cases x<;>first|rfl|(cases h;done)
theorem AQ.BT {f:FuncId} {args:List AV} {Q:AV→AN→Prop} (h:AQ P f args σ Q) (d:Nat):AQ P f args σ (fun v σ'=>Q v σ'∧v.BT d=false):=
 fun base g Pr w0 w vs hr hv=>(h base g Pr w0 w vs hr hv).mono fun _ _ ⟨v,av,g',σ',a,b,c,d',e,q⟩=>⟨v,av,g',σ',a,b,c,d',e,q,b.BT d⟩
def Off (d:Nat) (F:Fm):Prop:=∀s,(F s).BT d=false
theorem Off.Ap (h:Off d F) {dst:Option Nat} {v:AV} (hv:v.BT d=false):Off d (Ap dst v F):=by
 intro s
 cases dst with
 |none=>exact h s
 |some k=>
  simp only [Ab.Ap,Ab.put]
  split
  · exact hv
  · exact h s
theorem Off.DK (h:Off d F) (k:Nat):Off d (DK k F):=by
 intro s
 simp only [Ab.DK]
 split
 · rfl
 · exact h s
theorem Zq (d:Nat) (F:Fm):Off d (DK d F):=by
 intro s
 simp only [DK]
 split
 · rfl
 · rename_i h;simpa using h
def cOk:X→Bool
 | .t _=>true
 | .c v=>v.At
theorem SZ (h:Off d F) {x:X} (hx:cOk x=true):(xv F x).BT d=false:=by
 cases x with
 |t n=>exact h n
 |c v=>exact Va hx d
def S4:O→Bool
 | .mv x| .fld x _| .ld x _| .ldl x _| .nck x=>cOk x
 | .pick _ x y=>cOk x&&cOk y
 | .st x _ _=>cOk x
 |_=>true
theorem bX {k:Nat} (h:k≠d) (z:List AV) (L:Lm):B0 d z L k=L k:=by simp [B0,h]
theorem uO {p:AV} (hp:p.BT d=false) (n:Option Nat):ldA (B0 d z L) σ p n=ldA L σ p n:=by
 cases p<;>try rfl
 · rename_i dx;cases dx<;>rfl
 rename_i k o
 have:k≠d:=by simpa [AV.BT] using hp
 simp [ldA,bX this]
theorem qP {p:AV} (hp:p.BT d=false) (n:Option Nat):bL (B0 d z L) p n=bL L p n:=by
 cases p<;>try rfl
 rename_i k o
 have:k≠d:=by simpa [AV.BT] using hp
 simp [bL,bX this]
theorem zK (h:Off d F) {o:O} (hc:S4 o=true):pv F (B0 d z L) σ o=pv F L σ o:=by
 cases o<;>try rfl
 case ld x n=>exact uO (SZ h hc) n
 case ldl x n=>exact qP (SZ h hc) n
theorem Sc {cs:List AV} {o:Nat} {n:Option Nat} {v:AV} (h:rdC cs o n=some v):v.BT d=false:=by
 cases n with
 |none=>
  simp only [rdC,AB] at h
  obtain ⟨v0,_,h⟩:=h
  obtain ⟨rfl,hc⟩:=Tn h
  exact dK hc d
 |some n=>
  simp only [rdC] at h
  split at h
  · cases h;rfl
  · cases h
theorem qC {op:BinOp} {k:IntKind} {x y:Int} {v:AV} (h:mP op k x y=some v):v.BT d=false:=by
 unfold mP at h
 split at h<;>first|(cases h;rfl)|(split at h<;>first|(cases h;done)|(cases h;rfl))|(cases h;done)
theorem sT {op:BinOp} {x y:List UInt8} {v:AV} (h:Z1 op x y=some v):v.BT d=false:=by
 unfold Z1 at h
 split at h<;>first|(cases h;rfl)|(split at h<;>first|(cases h;done)|(cases h;rfl))|(cases h;done)
theorem kT {b:Bool} {x y v:AV} (h:mmA b x y=some v):v.BT d=false:=by
 unfold mmA at h
 split at h
 · split at h
   · cases h;rfl
   · cases h
 · cases h
theorem bG {rows:List (List DV)} {m:Int} {n:Nat} {v:AV} (h:ixR rows m n=some v):v.BT d=false:=by
 unfold ixR at h
 split at h
 · simp only [AB] at h
   obtain ⟨r,_,h⟩:=h
   split at h
   · cases h;rfl
   · cases h
 · cases h
theorem uC {k:EK} {args:List AV} {v:AV} (h:exP k args=some v):v.BT d=false:=by
 obtain ⟨_,h⟩:=Wq h
 unfold T3 at h
 split at h
 · cases h;rfl
 · simp only [AK] at h;obtain ⟨_,_,rfl⟩:=h;rfl
 · simp only [AK] at h;obtain ⟨_,_,rfl⟩:=h;rfl
 · cases h
theorem vZ (h:Off d F) {o:O} (hc:S4 o=true) {v:AV} (hv:pv F L σ o=some v):v.BT d=false:=by
 cases o<;>simp only [pv] at hv<;>try (cases hv;done)
 case mv x=>cases hv;exact SZ h hc
 case ex k xs=>exact uC hv
 case pick c x y=>
  simp only [S4,AL] at hc
  unfold eG at hv
  split at hv
  · cases hv;split
    · exact SZ h hc.1
    · exact SZ h hc.2
  · cases hv
 case fld x off=>
  have hx:=SZ h hc
  generalize xv F x=p at hv hx
  cases p<;>simp only [gV] at hv<;>try (cases hv;done)
  · rename_i dx;cases dx<;>simp only at hv<;>first|(cases hv;done)|(cases hv;rfl)
  · cases hv;exact hx
  · cases hv;rfl
  · cases hv;rfl
 case ld x n=>
  generalize xv F x=p at hv
  cases p<;>simp only [ldA] at hv<;>try (cases hv;done)
  · rename_i dx;cases dx<;>simp only at hv<;>first|(cases hv;done)|exact Sc hv
  · simp only [AB] at hv;obtain ⟨_,_,hv⟩:=hv;exact Sc hv
  · simp only [AB] at hv;obtain ⟨_,_,hv⟩:=hv;exact Sc hv
  · exact Sc hv
 case ldl x n=>
  generalize xv F x=p at hv
  cases p<;>simp only [bL] at hv<;>try (cases hv;done)
  simp only [AB] at hv;obtain ⟨_,_,hv⟩:=hv;exact Sc hv
 case ix x i n=>
  unfold ixA at hv
  split at hv
  · split at hv
    · cases hv;rfl
    · cases hv
  · split at hv
    · cases hv;rfl
    · cases hv
  · exact bG hv
  · exact bG hv
  · exact bG hv
  · cases hv
 case OM x i=>
  unfold Y5 at hv
  split at hv
  · split at hv
    · simp only [AK] at hv;obtain ⟨_,_,rfl⟩:=hv;rfl
    · cases hv
  · cases hv
 case len x=>
  unfold Sy at hv
  split at hv<;>first|(cases hv;rfl)|(cases hv;done)
 case J9 x=>
  unfold aB at hv
  split at hv<;>first|(cases hv;rfl)|(cases hv;done)
 case bin op x y=>
  unfold lU at hv
  split at hv
  · split at hv
    · exact qC hv
    · cases hv
  · exact sT hv
  · cases hv
 case pA op x y=>
  unfold Zc at hv
  split at hv<;>first|(cases hv;rfl)|(cases hv;done)
 case un op x=>
  unfold unA at hv
  split at hv<;>first|(cases hv;rfl)|(cases hv;done)
 case conv k x=>
  unfold Zh at hv
  split at hv<;>first|(cases hv;rfl)|(cases hv;done)
 case bld z ps=>simp only [AK] at hv;obtain ⟨_,_,rfl⟩:=hv;rfl
 case bsl s n z ps=>simp only [AK] at hv;obtain ⟨_,_,rfl⟩:=hv;rfl
 case mkf f x y=>
  split at hv
  · cases hv;rfl
  · cases hv
 case ext x i=>
  unfold mG at hv
  split at hv
  · simp only [AB] at hv
    obtain ⟨v0,_,hv⟩:=hv
    obtain ⟨rfl,hn⟩:=YA hv
    exact Va hn d
  · cases hv
 case nck x=>
  have hx:=SZ h hc
  generalize xv F x=p at hv hx
  cases p<;>simp only [rE] at hv<;>try (cases hv;done)
  · rename_i dx;cases dx<;>simp only at hv<;>first|(cases hv;done)|(cases hv;rfl)
  · cases hv;exact hx
  · cases hv;rfl
  · cases hv;rfl
 case mm b x y=>exact kT hv
 case fd x off n=>
  generalize xv F x=p at hv
  cases p<;>simp only [fdA] at hv<;>try (cases hv;done)
  exact Sc hv
 case ssl x lo hi=>
  unfold SP at hv
  split at hv
  · simp only [AK] at hv;obtain ⟨_,_,rfl⟩:=hv;rfl
  · cases hv
 case sls x lo hi mx n=>
  unfold oB at hv
  split at hv
  · split at hv
    · cases hv;rfl
    · cases hv
  · simp only [AB] at hv
    obtain ⟨_,_,hv⟩:=hv
    split at hv
    · cases hv;rfl
    · cases hv
  · simp only [AB] at hv
    obtain ⟨_,_,hv⟩:=hv
    split at hv
    · cases hv;rfl
    · cases hv
  simp only [AB] at hv
  obtain ⟨rows,_,hv⟩:=hv
  unfold cC at hv
  split at hv
  · simp only [AB] at hv
    obtain ⟨b,_,hv⟩:=hv
    split at hv
    · cases hv;rfl
    · split at hv
      · cases hv;rfl
      · cases hv
    · cases hv
  · cases hv
 case iV ne x=>
  unfold Zw at hv
  split at hv<;>first|(cases hv;rfl)|(cases hv;done)
 case jK ne n x y=>
  unfold aD at hv
  split at hv
  · split at hv
    · simp only [AK] at hv;obtain ⟨_,_,rfl⟩:=hv;rfl
    · cases hv
  · cases hv
 case mm3 b x y z=>
  simp only [AB] at hv
  obtain ⟨_,_,hv⟩:=hv
  exact kT hv
 case pB x=>simp only [AK] at hv;obtain ⟨_,_,rfl⟩:=hv;rfl
theorem Dy {dst:Option Nat} (h:dst≠some d) (v x:AV) (F:Fm):Ap dst v (put d x F)=put d x (Ap dst v F):=
 Vg (d:=dst) (e:=some d) (fun k hk he=>h (by rw [hk,he])) v x F
theorem SC {k:Nat} (h:d≠k) (F:Fm):DK k (put d (.lp d 0) F)=put d (.lp d 0) (DK k F):=by
 funext s
 simp only [DK,put]
 by_cases e:s=d
 · subst e;simp [AV.BT,h]
 · simp [e]
theorem Vf {k:Nat} (h:k≠d) (x y:List AV) (L:Lm):B0 k x (B0 d y L)=B0 d y (B0 k x L):=by
 funext s
 simp only [B0]
 by_cases e:s=k
 · subst e;simp [h]
 · simp [e]
theorem xR {o:O} {dst:Option Nat} (hN:Off d F) (hc:S4 o=true) (hl:∀s∈JP o,s≠d) (hd:dst≠some d) (hx:XO P dst K (put d (.lp d 0) F) (B0 d z L) σ o):
 XO P dst (fun F' L' σ'=>Off d F'∧K (put d (.lp d 0) F') (B0 d z L') σ') F L σ o:=by
 have hF:∀s∈JP o,put d (.lp d 0) F s=F s:=fun s hs=>by simp [put,hl s hs]
 by_cases hV:isV o=true
 · rw [lK hV] at hx ⊢
   obtain ⟨u,h1,h2⟩:=hx
   have h1:=XR hF h1
   have h3:Yv P F L σ u o∧u.BT d=false:=by
    cases o<;>try (cases hV;done)
    case WN f args=>exact ⟨h1,Va h1.2.1 d⟩
    all_goals
     simp only [Yv] at h1 ⊢
     rw [zK hN hc] at h1
     exact ⟨h1,vZ hN hc h1⟩
   refine ⟨u,h3.1,hN.Ap h3.2,?_⟩
   rw [← Dy hd];exact h2
 · cases o<;>simp only [isV,not_true_eq_false] at hV<;>simp only [JP,BV] at hF
   case box x sh=>
    simp only [XO,Sk] at hx ⊢
    rw [← BB hF]
    refine ⟨hx.1,?_⟩
    have hx:=hx.2
    cases dst with
    |none=>exact hx.elim
    |some e=>
     have hne:d≠e:=fun h=>hd (by rw [h])
     cases sh with
     |true=>exact fun i hi=>⟨hN.Ap (dst:=some e) (v:= .gp i 0) rfl,by have:=hx i hi;rw [show put e (.gp i 0) (put d (.lp d 0) F)=put d (.lp d 0) (put e (.gp i 0) F) from Dy (dst:=some e) hd _ _ _] at this;exact this⟩
     |false=>
      refine ⟨(hN.DK e).Ap (dst:=some e) (v:= .lp e 0) (by simp [AV.BT];exact Ne.symm hne),?_⟩
      have hx:K (put e (.lp e 0) (DK e (put d (.lp d 0) F))) (B0 e (xv (put d (.lp d 0) F) x).cells (B0 d z L)) σ:=hx
      rw [SC hne,Vf (Ne.symm hne),show put e (.lp e 0) (put d (.lp d 0) (DK e F))=put d (.lp d 0) (put e (.lp e 0) (DK e F)) from Dy (dst:=some e) hd _ _ _] at hx
      exact hx
   case al y sh=>
    simp only [XO,Sk] at hx ⊢
    refine ⟨hx.1,?_⟩
    have hx:=hx.2
    cases dst with
    |none=>exact hx.elim
    |some e=>
     have hne:d≠e:=fun h=>hd (by rw [h])
     cases sh with
     |true=>exact fun i hi=>⟨hN.Ap (dst:=some e) (v:= .gp i 0) rfl,by have:=hx i hi;rw [show put e (.gp i 0) (put d (.lp d 0) F)=put d (.lp d 0) (put e (.gp i 0) F) from Dy (dst:=some e) hd _ _ _] at this;exact this⟩
     |false=>
      refine ⟨(hN.DK e).Ap (dst:=some e) (v:= .lp e 0) (by simp [AV.BT];exact Ne.symm hne),?_⟩
      have hx:K (put e (.lp e 0) (DK e (put d (.lp d 0) F))) (B0 e y (B0 d z L)) σ:=hx
      rw [SC hne,Vf (Ne.symm hne),show put e (.lp e 0) (put d (.lp d 0) (DK e F))=put d (.lp d 0) (put e (.lp e 0) (DK e F)) from Dy (dst:=some e) hd _ _ _] at hx
      exact hx
   case st x y n=>
    simp only [XO,XSt] at hx ⊢
    rw [BB (F:=put d (.lp d 0) F) (F':=F) (fun s hs=>hF s (.inl hs)),BB (F:=put d (.lp d 0) F) (F':=F) (fun s hs=>hF s (.inr hs))] at hx
    obtain ⟨h1,h2,h3,h4⟩:=hx
    refine ⟨h1,h2,h3,?_⟩
    have hp:=SZ hN hc
    generalize xv F x=p at hp h4
    cases p<;>simp only [stA] at h4 ⊢<;>try (exact h4.elim)
    · rename_i k o2
      have hk:k≠d:=by simpa [AV.BT] using hp
      rw [bX hk] at h4
      cases hL:L k with
      |none=>rw [hL] at h4;exact h4.elim
      |some cs=>
       rw [hL] at h4
       simp only [B3] at h4 ⊢
       by_cases hle:o2+(xv F y).cells.length≤cs.length
       · rw [if_pos hle] at h4 ⊢
         refine ⟨hN,?_⟩
         have h4:K (put d (.lp d 0) F) (B0 k (wr cs o2 (xv F y).cells) (B0 d z L)) σ:=h4
         rw [Vf hk] at h4;exact h4
       · rw [if_neg hle] at h4;exact h4.elim
    · rename_i i o2
      cases hb:σ.blk i with
      |none=>rw [hb] at h4;exact h4.elim
      |some cs=>
       rw [hb] at h4
       simp only [B3] at h4 ⊢
       by_cases hle:o2+(xv F y).cells.length≤cs.length
       · rw [if_pos hle] at h4 ⊢;exact ⟨hN,h4⟩
       · rw [if_neg hle] at h4;exact h4.elim
   case msl e s b y l c=>
    obtain ⟨k,k',n,h1,h2,h3,h4,h5,h6⟩:=hx
    refine ⟨k,k',n,by rw [← BB (fun s hs=>hF s (.inl hs))];exact h1,by rw [← BB (fun s hs=>hF s (.inr hs))];exact h2,h3,h4,h5,fun i hi=>⟨hN.Ap rfl,?_⟩⟩
    rw [← Dy hd];exact h6 i hi
   case app e s b x y=>
    rcases hx with ⟨rows,σ1,srows,h1,h2,h3,h4,h5,h6⟩|⟨rows,srows,h1,h2,h3,h4,h5,h6,h7⟩
    · refine .inl ⟨rows,σ1,srows,by rw [← BB (fun s hs=>hF s (.inl hs))];exact h1,by rw [← BB (fun s hs=>hF s (.inr hs))];exact h2,h3,h4,h5,fun t ht=>⟨hN.Ap rfl,?_⟩⟩
      rw [← Dy hd];exact h6 t ht
    · refine .inr ⟨rows,srows,by rw [← BB (fun s hs=>hF s (.inl hs))];exact h1,by rw [← BB (fun s hs=>hF s (.inr hs))];exact h2,h3,h4,h5,h6,⟨hN.Ap rfl,?_⟩⟩
      rw [← Dy hd];exact h7
   case Yw e s b x y=>
    obtain ⟨n,cs,σ1,srows,h1,h2,h3,h4,h5,h6,h7⟩:=hx
    refine ⟨n,cs,σ1,srows,by rw [← BB (fun s hs=>hF s (.inl hs))];exact h1,by rw [← BB (fun s hs=>hF s (.inr hs))];exact h2,h3,fun e=>⟨hN.Ap ?_,?_⟩,h5,h6,fun e t ht=>⟨hN.Ap rfl,?_⟩⟩
    · unfold TN at h1
      rw [← BB (fun s hs=>hF s (.inl hs))]
      generalize xv _ x=xx at h1
      cases xx<;>first|rfl|(cases h1;done)
    · rw [← Dy hd,← BB (fun s hs=>hF s (.inl hs))];exact h4 e
    · rw [← Dy hd];exact h7 e t ht
   case trn x y=>
    obtain ⟨k,s,e,cs,σ1,h1,h2⟩:=hx
    refine ⟨k,s,e,cs,σ1,by rw [← BB (fun s hs=>hF s (.inl hs)),← BB (fun s hs=>hF s (.inr hs))];exact h1,fun t ht=>⟨hN.Ap rfl,?_⟩⟩
    rw [← Dy hd];exact h2 t ht
   case M5 e s l y ps=>
    obtain ⟨cs,h1,h2⟩:=hx
    refine ⟨cs,by rw [← Nf _ _ hF];exact h1,h2.imp (fun h2 t ht=>⟨hN.Ap rfl,?_⟩) fun ⟨ds,h3,h4,h5⟩=>⟨ds,h3,h4,fun t ht=>⟨hN.Ap rfl,?_⟩⟩⟩
    · rw [← Dy hd];exact h2 t ht
    · rw [← Dy hd];exact h5 t ht
   case call f args=>
    obtain ⟨h1,R,h2,h3⟩:=hx
    rw [G3 hF] at h1 h2
    refine ⟨h1,_,h2.BT d,fun u σ' hv=>⟨hN.Ap hv.2,?_⟩⟩
    rw [← Dy hd];exact h3 u σ' hv.1
   case EU x args=>
    obtain ⟨f,first,caps,h0,hb,h1,R,h2,h3⟩:=hx
    rw [G3 (fun s hs=>hF s (.inr hs))] at h1 h2
    refine ⟨f,first,caps,by rw [← BB (fun s hs=>hF s (.inl hs))];exact h0,hb,h1,_,h2.BT d,fun u σ' hv=>⟨hN.Ap hv.2,?_⟩⟩
    rw [← Dy hd];exact h3 u σ' hv.1
   case ex k xs=>
    simp only [XO,XEx,hV,AU,if_false] at hx ⊢
    rw [G3 hF] at hx
    refine ⟨hx.1,hx.2.mono fun u σ' hu hv=>⟨hN.Ap (hu d),?_⟩⟩
    rw [← Dy hd];exact hv
theorem xT {q:Q} (hN:Off d F) (hc:S4 q.o=true) (hl:∀s∈q.looks,s≠d) (hd:q.dst≠some d) (hx:XQ P q K (put d (.lp d 0) F) (B0 d z L) σ):
 XQ P q (fun F' L' σ'=>Off d F'∧K (put d (.lp d 0) F') (B0 d z L') σ') F L σ:=by
 have h1:∀s∈JP q.o,s≠d:=fun s hs=>hl s (by simp [Q.looks,hs])
 unfold XQ at hx ⊢
 rw [Xj (F:=put d (.lp d 0) F) (F':=F) (fun s hs=>by simp [put,hl s hs])] at hx
 cases hc2:gd F q.grd with
 |none=>rw [hc2] at hx;exact hx.elim
 |some b=>
  rw [hc2] at hx
  cases b
  · have hx:K (Ap q.dst (.tup []) (put d (.lp d 0) F)) (B0 d z L) σ:=hx
    rw [Dy hd] at hx
    exact ⟨hN.Ap rfl,hx⟩
  · exact xR hN hc h1 hd hx
theorem nY (h:Off d F):DK d F=F:=by
 funext s
 simp [DK,h s]
def xF (tab:Array Nat) (qs:List Q) (i d:Nat):Bool:=
 qs.zipIdx.all fun (qj,j)=>j==i||(tab.getD j 0).testBit i||(S4 qj.o&& !qj.looks.contains d&&qj.dst != some d)
theorem wM {ops:Array Oper} {tab:Array Nat} (htab:∀j i,(tab.getD j 0).testBit i=true→Anc ops j i) {qs:List Q} {i:Nat} (hi:qs[i]?=some ⟨some d,.al z false,none⟩) (hz:Ah z=true) (hlay:xF tab qs i d=true):
 ∀(fuel:Nat) (listed:Array Bool) (F:Fm) (L:Lm) (σ:AN),Il ops listed→listed.size=ops.size→i∈Region.ready .any ops listed→Off d F→
  VH P ops qs K fuel (listed.setIfInBounds i true) (put d (.lp d 0) F) (B0 d z L) σ→VH P ops qs K (fuel+1) listed F L σ:=by
 have hself:∀(K2:C5) (F:Fm) (L:Lm) (σ:AN),Off d F→K2 (put d (.lp d 0) F) (B0 d z L) σ→XQ P ⟨some d,.al z false,none⟩ K2 F L σ:=fun K2 F L σ hN h=>by
  show Sk z false (some d) K2 F L σ
  refine ⟨hz,?_⟩
  show K2 (put d (.lp d 0) (DK d F)) (B0 d z L) σ
  rw [nY hN];exact h
 intro fuel
 induction fuel with
 |zero=>
  intro listed F L σ hcl hsz hr hN H
  refine ⟨fun h=>(by rw [h] at hr;cases hr),fun j hj=>?_⟩
  by_cases hji:i=j
  · subst hji;exact ⟨_,hi,hself _ _ _ _ hN H⟩
  · have:=Ol hj hji
    rw [H.1] at this;cases this
 |succ fuel ih=>
  intro listed F L σ hcl hsz hr hN H
  refine ⟨fun h=>(by rw [h] at hr;cases hr),fun j hj=>?_⟩
  by_cases hji:i=j
  · subst hji;exact ⟨_,hi,hself _ _ _ _ hN H⟩
  · obtain ⟨qj,hqj,hxj⟩:=H.2 j (Ol hj hji)
    obtain ⟨hjlt,hjun,oj,hoj,hjall⟩:=KW.1 hj
    have hiun:=(KW.1 hr).2.1
    have hilt:=(KW.1 hr).1
    have hmem:(qj,j)∈qs.zipIdx:=by rw [Si];exact hqj
    have hb:=A5.1 hlay (qj,j) hmem
    simp only [BM,beq_iff_eq,AL,CP,bne_iff_ne] at hb
    rcases hb with (hb|hanc)|⟨⟨hc,hlk⟩,hdst⟩
    · exact absurd hb.symm hji
    · have h1:=XV hcl (htab j i hanc) (fun o ho=>by rw [hoj] at ho;cases ho;exact hjall)
      rw [Ci,Lg (by omega)] at h1 hiun
      simp at h1 hiun
      rw [h1] at hiun;cases hiun
    · refine ⟨qj,hqj,?_⟩
      have hlk':∀s∈qj.looks,s≠d:=fun s hs he=>by subst he;rw [← Q4,B5] at hlk;exact hlk hs
      have hcomm:(listed.setIfInBounds i true).setIfInBounds j true=(listed.setIfInBounds j true).setIfInBounds i true:=Array.setIfInBounds_comm _ _ hji
      refine Tg (fun F' L' σ' h=>?_) (xT hN hc hlk' hdst hxj)
      refine ih _ F' L' σ' (hcl.set hj) (by simpa using hsz) (Ol hr (Ne.symm hji)) h.1 ?_
      rw [← hcomm];exact h.2
def OF:List Nat→Fm→Fm
 |[],F=>F
 |d::ds,F=>OF ds (DK d F)
theorem WR:∀(ds:List Nat) (F:Fm) (s:Nat),OF ds F s=F s∨OF ds F s= .undef
 |[],F,s=>.inl rfl
 |d::ds,F,s=>by
  rcases WR ds (DK d F) s with h|h
  · rw [OF,h];simp only [DK];split<;>simp
  · exact .inr h
theorem YI:∀(ds:List Nat) (F:Fm) (d:Nat),(d∈ds∨Off d F)→Off d (OF ds F)
 |[],F,d,h=>by
  rcases h with h|h
  · cases h
  · exact h
 |e::ds,F,d,h=>by
  refine YI ds (DK e F) d ?_
  rcases h with h|h
  · cases h with
    |head=>exact .inr (Zq _ F)
    |tail _ h=>exact .inl h
  · exact .inr (h.DK e)
theorem YJ:∀(ds:List Nat) (F:Fm) (d:Nat),d ∉ ds→OF ds (put d (.lp d 0) F)=put d (.lp d 0) (OF ds F)
 |[],F,d,_=>rfl
 |e::ds,F,d,h=>by
  simp only [Bv,not_or] at h
  simp only [OF]
  rw [SC h.1,YJ ds _ d h.2]
def PH:PT→List Nat×PT
 | .lay i t=>(i::(PH t).1,(PH t).2)
 |t=>([],t)
def qN (qs:List Q):List Nat→Option (List (Nat×Nat×List AV))
 |[]=>some []
 |i::l=>match qs[i]? with
  |some ⟨some d,.al z false,none⟩=>if Ah z then (qN qs l).map ((i,d,z)::·) else none
  |_=>none
def V4 (ops:Array Oper) (tab:Array Nat) (qs:List Q):List (Nat×Nat×List AV)→Array Bool→Bool
 |[],_=>true
 |(i,d,_)::r,listed=>(Region.ready .any ops listed).contains i&&xF tab qs i d&& !(r.map (·.2.1)).contains d&&V4 ops tab qs r (listed.setIfInBounds i true)
def Y3:List Nat→Array Bool→Array Bool
 |[],a=>a
 |i::l,a=>Y3 l (a.setIfInBounds i true)
def yX:List (Nat×Nat×List AV)→Fm→Fm
 |[],F=>F
 |(_,d,_)::r,F=>yX r (put d (.lp d 0) (DK d F))
def yY:List (Nat×Nat×List AV)→Lm→Lm
 |[],L=>L
 |(_,d,z)::r,L=>yY r (B0 d z L)
theorem aN {ops:Array Oper} {tab:Array Nat} (htab:∀j i,(tab.getD j 0).testBit i=true→Anc ops j i) {qs:List Q} {n:Nat}:∀(ls:List (Nat×Nat×List AV)) (listed:Array Bool) (F:Fm) (L:Lm) (σ:AN),
 (∀x∈ls,qs[x.1]?=some ⟨some x.2.1,.al x.2.2 false,none⟩∧Ah x.2.2=true)→V4 ops tab qs ls listed=true→Il ops listed→listed.size=ops.size→
 VH P ops qs K n (Y3 (ls.map (·.1)) listed) (yX ls F) (yY ls L) σ→VH P ops qs K (n+ls.length) listed (OF (ls.map (·.2.1)) F) L σ
 |[],listed,F,L,σ,_,_,_,_,h=>h
 |(i,d,z)::r,listed,F,L,σ,hq,hok,hcl,hsz,h=>by
  simp only [V4,AL,B5,CP] at hok
  obtain ⟨⟨⟨hr,hlay⟩,hnd⟩,hrest⟩:=hok
  have hnd':d ∉ r.map (·.2.1):=fun hm=>by rw [← Q4,B5] at hnd;exact hnd hm
  obtain ⟨hi,hz⟩:=hq (i,d,z) (by simp)
  have ih:=aN htab (n:=n) r (listed.setIfInBounds i true) (put d (.lp d 0) (DK d F)) (B0 d z L) σ (fun x hx=>hq x (by simp [hx])) hrest (hcl.set hr) (by simpa using hsz) h
  rw [YJ _ _ _ hnd'] at ih
  exact wM htab hi hz hlay (n+r.length) listed _ L σ hcl hsz hr (YI (r.map (·.2.1)) (DK d F) d (.inr (Zq d F))) ih
theorem Tc {ops:Array Oper} {tab:Array Nat} {qs:List Q}:∀(ls:List (Nat×Nat×List AV)) (listed:Array Bool),V4 ops tab qs ls listed=true→Il ops listed→listed.size=ops.size→Il ops (Y3 (ls.map (·.1)) listed)∧(Y3 (ls.map (·.1)) listed).size=ops.size
 |[],listed,_,hc,hs=>⟨hc,hs⟩
 |(i,d,z)::r,listed,hok,hcl,hsz=>by
  simp only [V4,AL,B5] at hok
  exact Tc r _ hok.2 (hcl.set hok.1.1.1) (by simpa using hsz)
def k7 (ls:List (Nat×Nat×List AV)) (t:QT):QT:=ls.foldr (fun x acc=>.one ⟨some x.2.1,.al x.2.2 false,none⟩ acc) t
theorem eH:∀(ls:List (Nat×Nat×List AV)) (t:QT) (F:Fm) (L:Lm),XT P K false (k7 ls t) F L σ→XT P K false t (yX ls F) (yY ls L) σ
 |[],t,F,L,h=>h
 |(i,d,z)::r,t,F,L,h=>by
  have h:XQ P ⟨some d,.al z false,none⟩ (XT P K false (k7 r t)) F L σ:=h
  have h:Sk z false (some d) (XT P K false (k7 r t)) F L σ:=h
  exact eH r t _ _ h.2
def X9 (P:Program) (N:Nat) (esc:List Nat) (pf:List FuncId) (pt:PT) (ops:Array Oper):Option QT:=do
 let qs ← Me P N esc ops (Ic ops.size)
 let qs:=qs.map (toP pf)
 let tab:=VJ ops.toList #[]
 let ls ← qN qs (PH pt).1
 let l0:=Eg ops.size false
 if V4 ops tab qs ls l0&&Mx ops tab qs (PH pt).2 (Y3 (ls.map (·.1)) l0) none&&decide ((PH pt).2.depth+ls.length≤ops.size) then (Uu qs (PH pt).2).map (k7 ls) else none
theorem Zp {qs:List Q}:∀(l:List Nat) (ls:List (Nat×Nat×List AV)),qN qs l=some ls→∀x∈ls,qs[x.1]?=some ⟨some x.2.1,.al x.2.2 false,none⟩∧Ah x.2.2=true
 |[],ls,h,x,hx=>by simp only [qN,AP] at h;subst h;cases hx
 |i::l,ls,h,x,hx=>by
  simp only [qN] at h
  split at h
  · rename_i d z hq
    split at h
    · rename_i hz
      simp only [AK] at h
      obtain ⟨r,hr,rfl⟩:=h
      cases hx with
      |head=>exact ⟨hq,hz⟩
      |tail _ hx=>exact Zp l r hr x hx
    · cases h
  · cases h
theorem Z5 {ops:Array Oper} {qs:List Q}:∀(n m:Nat) (listed:Array Bool) (F:Fm) (L:Lm) (σ:AN),n≤m→VH P ops qs K n listed F L σ→VH P ops qs K m listed F L σ
 |0,0,listed,F,L,σ,_,h=>h
 |0,m+1,listed,F,L,σ,_,h=>⟨fun _=>h.2,fun i hi=>by rw [h.1] at hi;cases hi⟩
 |n+1,0,listed,F,L,σ,hle,h=>by omega
 |n+1,m+1,listed,F,L,σ,hle,h=>⟨h.1,fun i hi=>by
  obtain ⟨q,hq,hx⟩:=h.2 i hi
  exact ⟨q,hq,Tg (fun F L σ h=>Z5 n m _ F L σ (by omega) h) hx⟩⟩
theorem BY.ABD (h:BY base g lam Pr N F L σ a w0 w) {F':Fm} (hF:∀s,F' s=F s∨F' s= .undef):BY base g lam Pr N F' L σ a w0 w:=by
 refine ⟨fun s=>?_,h.sz,h.df,h.loc,h.inj,h.npr,h.rel⟩
 rcases hF s with e|e
 · rw [e];exact h.tm s
 · rw [e];exact VR.undef
theorem WA {ops:Array Oper} {esc:List Nat} {pf:List FuncId} {pt:PT} {qt:QT} (hm:P.follows .mixedOrders=true) (hc:X9 P N esc pf pt ops=some qt) (hx:XT P K false qt F L σ)
 (h:BY base g lam Pr N F L σ a w0 w) {id:Nat}:(Code.region id ops true).wp P (fun e a' w'=>e= .normal∧Ew base Pr N w0 g w K a' w') a w:=by
 simp only [X9,AT,AB] at hc
 obtain ⟨qs0,hq0,ls,hls,hc⟩:=hc
 split at hc
 case isFalse=>cases hc
 rename_i hp
 simp only [AL,decide_eq_true_eq] at hp
 simp only [AK] at hc
 obtain ⟨t,ht,rfl⟩:=hc
 have hcl:Il ops (Eg ops.size false):=by
  intro j o ho hj
  have:(Eg ops.size false).getD j false=false:=by
   simp only [Ci,Array.getElem?_replicate];split<;>rfl
  rw [this] at hj;cases hj
 obtain ⟨hcl2,hsz2⟩:=Tc ls _ hp.1.1 hcl (by simp)
 have hx2:=eH ls t F L hx
 have hany1:=(XB (P:=P) (K:=K) (fun j i=>Vq) _ t ht).1 _ _ _ _ σ (A7 _) hp.1.2 hcl2 hsz2 hx2
 have hany2:=aN (P:=P) (K:=K) (tab:=VJ ops.toList #[]) (fun j i=>Vq) ls _ F L σ (Zp _ ls hls) hp.1.1 hcl (by simp) hany1
 have hany:=Z5 _ ops.size _ _ _ _ hp.2 hany2
 refine wp_region_any hm ?_
 have hF:=h.ABD (WR (ls.map (·.2.1)) F)
 have hdrew:BY base g lam Pr N (OF (ls.map (·.2.1)) F) L σ a w0 { w with drawn:=w.drawn+1}:=
  hF.step (w':=w.drew) (Gh.le_refl g) (fun k b hb=>rfl) (hF.rel.grow (w':=w.drew) (A7 _) (fun _ _ _=>rfl) ((Below.refl base w).drew) (fun b hb=>⟨(hF.rel.pr b hb).1,.inl hb⟩))
 exact UM hq0 K _ _ base g lam Pr _ L σ a w0 _ hany hdrew (fun a' w' hA=>⟨rfl,Ew.trans (Gh.le_refl g) ⟨A7 _,fun _ _=>rfl⟩ hA⟩)
def lin:QT→Option (List Q)
 | .done=>some []
 | .one q t=>(lin t).map (q::·)
 | .alt _ _ _=>none
theorem q8:∀(t:QT) (ops:List Q) (F:Fm) (L:Lm) (σ:AN),lin t=some ops→BK P K ops F L σ→XT P K false t F L σ
 | .done,ops,F,L,σ,h,hx=>by simp only [lin,AP] at h;subst h;exact hx
 | .one q t,ops,F,L,σ,h,hx=>by
  simp only [lin,AK] at h
  obtain ⟨l,hl,rfl⟩:=h
  exact Tg (fun F L σ h=>q8 t l F L σ hl h) hx
 | .alt _ _ _,ops,F,L,σ,h,_=>by simp [lin] at h
end Go.Ab
