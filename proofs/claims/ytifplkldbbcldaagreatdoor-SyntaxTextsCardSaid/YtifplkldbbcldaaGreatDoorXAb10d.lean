/- Regions that draw their order, continued: where operations do not commute, every order is looked at. Regions that draw their order, continued: new local variables may be laid first. Conditions: none. -/
import Derived.Test.YtifplkldbbcldaaGreatDoorXAb10b
set_option linter.unusedSimpArgs false
set_option linter.unusedVariables false
set_option maxRecDepth 4000
set_option maxHeartbeats 8000000
open Bool renaming false_eq_true→AY,and_eq_true→AK,or_eq_true→BJ,not_eq_true'→Dy
open Option.some renaming injEq→AP
open List renaming all_eq_true→A4,contains_iff_mem→BV,mem_singleton→Fa,mem_zipIdx_iff_getElem?→RS,mem_append→BP,mem_cons→By,range→Hs
open Option renaming bind_eq_some_iff→AB,map_eq_some_iff→AJ,getD_some→PJ,bind_some→BZ,bind_eq_bind→AR
open Array renaming getD_eq_getD_getElem?→CX,getElem?_eq_getElem→Ko,replicate→EO
open Nat renaming le_refl→A7
namespace Go.Ab
open Go.RowKit
variable {P:Program} {base N:Nat} {g g':Gh} {Pr:Nat→Prop} {σ σ':AN} {w0 w w':World} {lam:Nat→Option Nat} {F:Fm} {L:Lm} {a:Act} {K:CO}
theorem jQ {o:O} {dst:Option Nat} {K':CO} (hk:∀F L σ,K F L σ→K' F L σ) (hx:XO P dst K F L σ o):XO P dst K' F L σ o:=by
 by_cases hV:isV o=true
 · rw [fM hV] at hx ⊢
   obtain ⟨v,h1,h2⟩:=hx
   exact ⟨v,h1,hk _ _ _ h2⟩
 · cases o<;>simp only [isV,not_true_eq_false] at hV
   case box x sh=>
    simp only [XO,RU] at hx ⊢
    refine ⟨hx.1,?_⟩
    have hx:=hx.2
    cases dst with
    |none=>exact hx.elim
    |some d=>cases sh with
     |true=>exact fun i hi=>hk _ _ _ (hx i hi)
     |false=>exact hk _ _ _ hx
   case al z sh=>
    simp only [XO,RU] at hx ⊢
    refine ⟨hx.1,?_⟩
    have hx:=hx.2
    cases dst with
    |none=>exact hx.elim
    |some d=>cases sh with
     |true=>exact fun i hi=>hk _ _ _ (hx i hi)
     |false=>exact hk _ _ _ hx
   case st x v n=>
    simp only [XO,XSt] at hx ⊢
    obtain ⟨h1,h2,h3,h4⟩:=hx
    refine ⟨h1,h2,h3,?_⟩
    split at h4
    · exact hk _ _ _ h4
    · exact h4.elim
   case msl e s b z l c=>
    obtain ⟨k,k',n,h1,h2,h3,h4,h5,h6⟩:=hx
    exact ⟨k,k',n,h1,h2,h3,h4,h5,fun i hi=>hk _ _ _ (h6 i hi)⟩
   case Wy e s b x y=>
    obtain ⟨n,cs,σ1,srows,h1,h2,h3,h4,h5,h6,h7⟩:=hx
    exact ⟨n,cs,σ1,srows,h1,h2,h3,fun e=>hk _ _ _ (h4 e),h5,h6,fun e t ht=>hk _ _ _ (h7 e t ht)⟩
   case trn x y=>
    obtain ⟨k,s,e,cs,σ1,h1,h2⟩:=hx
    exact ⟨k,s,e,cs,σ1,h1,fun t ht=>hk _ _ _ (h2 t ht)⟩
   case Le e s l z ps=>
    obtain ⟨cs,h1,h2⟩:=hx
    exact ⟨cs,h1,h2.imp (fun h2 t ht=>hk _ _ _ (h2 t ht)) fun ⟨ds,h3,h4,h5⟩=>⟨ds,h3,h4,fun t ht=>hk _ _ _ (h5 t ht)⟩⟩
   case app e s b x y=>
    rcases hx with ⟨rows,σ1,srows,h1,h2,h3,h4,h5,h6⟩|⟨rows,srows,h1,h2,h3,h4,h5,h6,h7⟩
    · exact .inl ⟨rows,σ1,srows,h1,h2,h3,h4,h5,fun t ht=>hk _ _ _ (h6 t ht)⟩
    · exact .inr ⟨rows,srows,h1,h2,h3,h4,h5,h6,hk _ _ _ h7⟩
   case call f args=>
    obtain ⟨h1,R,h2,h3⟩:=hx
    exact ⟨h1,R,h2,fun v σ' hv=>hk _ _ _ (h3 v σ' hv)⟩
   case Dr x args=>
    obtain ⟨f,first,caps,h0,hb,h1,R,h2,h3⟩:=hx
    exact ⟨f,first,caps,h0,hb,h1,R,h2,fun v σ' hv=>hk _ _ _ (h3 v σ' hv)⟩
   case ex k xs=>
    simp only [XO,XEx,hV,AY,if_false] at hx ⊢
    exact ⟨hx.1,hx.2.mono fun v σ' _ hv=>hk _ _ _ hv⟩
theorem SN {q:Q} {K':CO} (hk:∀F L σ,K F L σ→K' F L σ) (hx:XQ P q K F L σ):XQ P q K' F L σ:=by
 unfold XQ at hx ⊢
 cases hc:gd F q.grd with
 |none=>rw [hc] at hx;exact hx.elim
 |some b=>
  rw [hc] at hx
  cases b
  · exact hk _ _ _ hx
  · exact jQ hk hx
inductive PT where
 |done
 |one (i:Nat) (t:PT)
 |alt (i:Nat) (t r:PT)
 |lay (i:Nat) (t:PT)
inductive QT where
 |done
 |one (q:Q) (t:QT)
 |alt (q:Q) (t r:QT)
def XT (P:Program) (K:CO):Bool→QT→CO
 |false,.done=>K
 |true,.done=>fun _ _ _=>True
 |_,.one q t=>XQ P q (XT P K false t)
 |_,.alt q t r=>fun F L σ=>XQ P q (XT P K false t) F L σ∧XT P K true r F L σ
def PT.depth:PT→Nat
 | .done=>0
 | .one _ t=>t.depth+1
 | .alt _ t r=>max (t.depth+1) r.depth
 | .lay _ t=>t.depth+1
def T1 (qs:List Q):PT→Option QT
 | .done=>some .done
 | .one i t=>(qs[i]?).bind fun q=>(T1 qs t).map (.one q ·)
 | .alt i t r=>(qs[i]?).bind fun q=>(T1 qs t).bind fun t'=>(T1 qs r).map (.alt q t' ·)
 | .lay i t=>(qs[i]?).bind fun q=>(T1 qs t).map (.one q ·)
def MG (ops:Array Oper) (tab:Array Nat) (qs:List Q):PT→Array Bool→Option (List Nat)→Bool
 | .done,listed,none=>(Region.ready .any ops listed).isEmpty
 | .done,listed,some l=>(Region.ready .any ops listed).all (l.contains ·)
 | .one i t,listed,none=>(Region.ready .any ops listed).contains i&&(Region.ready .any ops listed==[i]||VP tab qs listed i)&&MG ops tab qs t (listed.setIfInBounds i true) none
 | .one i t,listed,some l=>(Region.ready .any ops listed).contains i&&(Region.ready .any ops listed).all (fun j=>j==i||l.contains j)&&MG ops tab qs t (listed.setIfInBounds i true) none
 | .alt i t r,listed,e=>(Region.ready .any ops listed).contains i&&MG ops tab qs t (listed.setIfInBounds i true) none&&MG ops tab qs r listed (some (i::e.getD []))
 | .lay _ _,_,_=>false
theorem VV {ops:Array Oper} {tab:Array Nat} (htab:∀j i,(tab.getD j 0).testBit i=true→Anc ops j i) {qs:List Q}:∀(t:PT) (qt:QT),T1 qs t=some qt→
 (∀n listed F L σ,t.depth≤n→MG ops tab qs t listed none=true→IB ops listed→listed.size=ops.size→XT P K false qt F L σ→Td P ops qs K n listed F L σ)∧
 (∀n listed l F L σ,t.depth≤n+1→MG ops tab qs t listed (some l)=true→IB ops listed→listed.size=ops.size→XT P K true qt F L σ→
   ∀j∈Region.ready .any ops listed,j ∉ l→∃q,qs[j]?=some q∧XQ P q (Td P ops qs K n (listed.setIfInBounds j true)) F L σ)
 | .done,qt,hp=>by
  simp only [T1,AP] at hp;subst hp
  refine ⟨fun n listed F L σ _ hp _ _ hx=>?_,fun n listed l F L σ _ hp _ _ _ j hj hjl=>?_⟩
  · simp only [MG,List.isEmpty_iff] at hp
    cases n with
    |zero=>exact ⟨hp,hx⟩
    |succ n=>exact ⟨fun _=>hx,fun i hi=>by rw [hp] at hi;cases hi⟩
  · simp only [MG,A4,BV] at hp
    exact absurd (hp j hj) hjl
 | .one i t,qt,hp=>by
  simp only [T1,AB,AJ] at hp
  obtain ⟨q,hq,t',ht',rfl⟩:=hp
  obtain ⟨ih,_⟩:=VV htab t t' ht'
  refine ⟨fun n listed F L σ hd hp hcl hsz hx=>?_,fun n listed l F L σ hd hp hcl hsz hx j hj hjl=>?_⟩
  · simp only [PT.depth] at hd
    obtain ⟨m,rfl⟩:∃m,n=m+1:=⟨n - 1,by omega⟩
    simp only [MG,AK,BJ,BV,beq_iff_eq] at hp
    obtain ⟨⟨hr,hok⟩,hrest⟩:=hp
    have hx:XQ P q (XT P K false t') F L σ:=hx
    have ih':=fun F L σ=>ih m (listed.setIfInBounds i true) F L σ (by omega) hrest (hcl.set hr) (by simpa using hsz)
    rcases hok with hok|hok
    · refine ⟨fun h=>(by rw [h] at hr;cases hr),fun j hj=>?_⟩
      rw [hok] at hj
      simp only [Fa] at hj
      subst hj
      exact ⟨_,hq,SN (fun F L σ h=>ih' F L σ h) hx⟩
    · unfold VP at hok
      rw [hq] at hok
      simp only [AK,A4] at hok
      obtain ⟨v,hy,hk⟩:=(jS hok.1 _).1 hx
      refine Wt htab hq hok.1 m listed F L σ v hcl hsz (fun j qj hj hji hun=>?_) hr hy (ih' _ _ _ hk)
      have hmem:(qj,j)∈qs.zipIdx:=by
       rw [RS];exact hj
      have:=hok.2 (qj,j) hmem
      simp only [BJ,beq_iff_eq] at this
      rcases this with (h|h)|h
      · exact absurd h hji
      · rw [hun] at h;cases h
      · exact h
  · simp only [PT.depth] at hd
    simp only [MG,AK,A4,BV,BJ,beq_iff_eq] at hp
    obtain ⟨⟨hr,hall⟩,hrest⟩:=hp
    have hx:XQ P q (XT P K false t') F L σ:=hx
    rcases hall j hj with rfl|h
    · exact ⟨q,hq,SN (fun F L σ h=>ih n _ F L σ (by omega) hrest (hcl.set hr) (by simpa using hsz) h) hx⟩
    · exact absurd h hjl
 | .alt i t r,qt,hp=>by
  simp only [T1,AB,AJ] at hp
  obtain ⟨q,hq,t',ht',r',hr',rfl⟩:=hp
  obtain ⟨ih,_⟩:=VV htab t t' ht'
  obtain ⟨_,ihr⟩:=VV htab r r' hr'
  refine ⟨fun n listed F L σ hd hp hcl hsz hx=>?_,fun n listed l F L σ hd hp hcl hsz hx j hj hjl=>?_⟩
  · simp only [PT.depth] at hd
    obtain ⟨m,rfl⟩:∃m,n=m+1:=⟨n - 1,by omega⟩
    simp only [MG,AK,BV,Option.getD_none] at hp
    obtain ⟨⟨hr,hrest⟩,hp2⟩:=hp
    obtain ⟨hx1,hx2⟩:=hx
    refine ⟨fun h=>(by rw [h] at hr;cases hr),fun j hj=>?_⟩
    by_cases hji:j=i
    · subst hji
      exact ⟨q,hq,SN (fun F L σ h=>ih m _ F L σ (by omega) hrest (hcl.set hr) (by simpa using hsz) h) hx1⟩
    · exact ihr m listed [i] F L σ (by omega) hp2 hcl hsz hx2 j hj (by simpa using hji)
  · simp only [PT.depth] at hd
    simp only [MG,AK,BV,PJ] at hp
    obtain ⟨⟨hr,hrest⟩,hp2⟩:=hp
    obtain ⟨hx1,hx2⟩:=hx
    by_cases hji:j=i
    · subst hji
      exact ⟨q,hq,SN (fun F L σ h=>ih n _ F L σ (by omega) hrest (hcl.set hr) (by simpa using hsz) h) hx1⟩
    · exact ihr n listed (i::l) F L σ (by omega) hp2 hcl hsz hx2 j hj (by simp [hji,hjl])
 | .lay i t,qt,hp=>⟨fun n listed F L σ _ hp=>by simp [MG] at hp,fun n listed l F L σ _ hp=>by simp [MG] at hp⟩
end Go.Ab
namespace Go.Ab
open Go.RowKit
variable {P:Program} {base N:Nat} {g g':Gh} {Pr:Nat→Prop} {σ σ':AN} {w0 w w':World} {lam:Nat→Option Nat} {F:Fm} {L:Lm} {a:Act} {K:CO} {d:Nat} {z:List AV}
theorem VR.BO {x:AV} {v:Value} (h:VR g x v) (d:Nat):x.BO d=false:=by cases h<;>rfl
theorem UG {x:AV} (h:x.As=true) (d:Nat):x.BO d=false:=by cases x<;>first|rfl|(cases h;done)
theorem ZX {x:AV} (h:x.CD=true) (d:Nat):x.BO d=false:=by cases x<;>first|rfl|(cases h;done)
theorem AT.BO {f:FuncId} {args:List AV} {Q:AV→AN→Prop} (h:AT P f args σ Q) (d:Nat):AT P f args σ (fun v σ'=>Q v σ'∧v.BO d=false):=
 fun base g Pr w0 w vs hr hv=>(h base g Pr w0 w vs hr hv).mono fun _ _ ⟨v,av,g',σ',a,b,c,d',e,q⟩=>⟨v,av,g',σ',a,b,c,d',e,q,b.BO d⟩
def Off (d:Nat) (F:Fm):Prop:=∀s,(F s).BO d=false
theorem Off.An (h:Off d F) {dst:Option Nat} {v:AV} (hv:v.BO d=false):Off d (An dst v F):=by
 intro s
 cases dst with
 |none=>exact h s
 |some k=>
  simp only [Ab.An,Ab.put]
  split
  · exact hv
  · exact h s
theorem Off.Co (h:Off d F) (k:Nat):Off d (Co k F):=by
 intro s
 simp only [Ab.Co]
 split
 · rfl
 · exact h s
theorem Xm (d:Nat) (F:Fm):Off d (Co d F):=by
 intro s
 simp only [Co]
 split
 · rfl
 · rename_i h;simpa using h
def cOk:X→Bool
 | .t _=>true
 | .c v=>v.As
theorem Qx (h:Off d F) {x:X} (hx:cOk x=true):(xv F x).BO d=false:=by
 cases x with
 |t n=>exact h n
 |c v=>exact UG hx d
def RE:O→Bool
 | .mv x| .fld x _| .ld x _| .ldl x _| .nck x=>cOk x
 | .pick _ x y=>cOk x&&cOk y
 | .st x _ _=>cOk x
 |_=>true
theorem Yh {k:Nat} (h:k≠d) (z:List AV) (L:Lm):Bd d z L k=L k:=by simp [Bd,h]
theorem oT {p:AV} (hp:p.BO d=false) (n:Option Nat):ldA (Bd d z L) σ p n=ldA L σ p n:=by
 cases p<;>try rfl
 · rename_i dx;cases dx<;>rfl
 rename_i k o
 have:k≠d:=by simpa [AV.BO] using hp
 simp [ldA,Yh this]
theorem lB {p:AV} (hp:p.BO d=false) (n:Option Nat):Y5 (Bd d z L) p n=Y5 L p n:=by
 cases p<;>try rfl
 rename_i k o
 have:k≠d:=by simpa [AV.BO] using hp
 simp [Y5,Yh this]
theorem tI (h:Off d F) {o:O} (hc:RE o=true):pv F (Bd d z L) σ o=pv F L σ o:=by
 cases o<;>try rfl
 case ld x n=>exact oT (Qx h hc) n
 case ldl x n=>exact lB (Qx h hc) n
theorem RN {cs:List AV} {o:Nat} {n:Option Nat} {v:AV} (h:rdC cs o n=some v):v.BO d=false:=by
 cases n with
 |none=>
  simp only [rdC,AB] at h
  obtain ⟨v0,_,h⟩:=h
  obtain ⟨rfl,hc⟩:=SW h
  exact ZX hc d
 |some n=>
  simp only [rdC] at h
  split at h
  · cases h;rfl
  · cases h
theorem kT {op:BinOp} {k:IntKind} {x y:Int} {v:AV} (h:gQ op k x y=some v):v.BO d=false:=by
 unfold gQ at h
 split at h<;>first|(cases h;rfl)|(split at h<;>first|(cases h;done)|(cases h;rfl))|(cases h;done)
theorem nB {op:BinOp} {x y:List UInt8} {v:AV} (h:Yr op x y=some v):v.BO d=false:=by
 unfold Yr at h
 split at h<;>first|(cases h;rfl)|(split at h<;>first|(cases h;done)|(cases h;rfl))|(cases h;done)
theorem eN {b:Bool} {x y v:AV} (h:mmA b x y=some v):v.BO d=false:=by
 unfold mmA at h
 split at h
 · split at h
   · cases h;rfl
   · cases h
 · cases h
theorem Y0 {rows:List (List DV)} {m:Int} {n:Nat} {v:AV} (h:ixR rows m n=some v):v.BO d=false:=by
 unfold ixR at h
 split at h
 · simp only [AB] at h
   obtain ⟨r,_,h⟩:=h
   split at h
   · cases h;rfl
   · cases h
 · cases h
theorem oH {k:EK} {args:List AV} {v:AV} (h:exP k args=some v):v.BO d=false:=by
 obtain ⟨_,h⟩:=VJ h
 unfold Ry at h
 split at h
 · cases h;rfl
 · simp only [AJ] at h;obtain ⟨_,_,rfl⟩:=h;rfl
 · simp only [AJ] at h;obtain ⟨_,_,rfl⟩:=h;rfl
 · cases h
theorem p9 (h:Off d F) {o:O} (hc:RE o=true) {v:AV} (hv:pv F L σ o=some v):v.BO d=false:=by
 cases o<;>simp only [pv] at hv<;>try (cases hv;done)
 case mv x=>cases hv;exact Qx h hc
 case ex k xs=>exact oH hv
 case pick c x y=>
  simp only [RE,AK] at hc
  unfold Zm at hv
  split at hv
  · cases hv;split
    · exact Qx h hc.1
    · exact Qx h hc.2
  · cases hv
 case fld x off=>
  have hx:=Qx h hc
  generalize xv F x=p at hv hx
  cases p<;>simp only [bK] at hv<;>try (cases hv;done)
  · rename_i dx;cases dx<;>simp only at hv<;>first|(cases hv;done)|(cases hv;rfl)
  · cases hv;exact hx
  · cases hv;rfl
  · cases hv;rfl
 case ld x n=>
  generalize xv F x=p at hv
  cases p<;>simp only [ldA] at hv<;>try (cases hv;done)
  · rename_i dx;cases dx<;>simp only at hv<;>first|(cases hv;done)|exact RN hv
  · simp only [AB] at hv;obtain ⟨_,_,hv⟩:=hv;exact RN hv
  · simp only [AB] at hv;obtain ⟨_,_,hv⟩:=hv;exact RN hv
  · exact RN hv
 case ldl x n=>
  generalize xv F x=p at hv
  cases p<;>simp only [Y5] at hv<;>try (cases hv;done)
  simp only [AB] at hv;obtain ⟨_,_,hv⟩:=hv;exact RN hv
 case ix x i n=>
  unfold ixA at hv
  split at hv
  · split at hv
    · cases hv;rfl
    · cases hv
  · split at hv
    · cases hv;rfl
    · cases hv
  · exact Y0 hv
  · exact Y0 hv
  · exact Y0 hv
  · cases hv
 case W8 x i=>
  unfold W9 at hv
  split at hv
  · split at hv
    · simp only [AJ] at hv;obtain ⟨_,_,rfl⟩:=hv;rfl
    · cases hv
  · cases hv
 case len x=>
  unfold R8 at hv
  split at hv<;>first|(cases hv;rfl)|(cases hv;done)
 case Pm x=>
  unfold Xx at hv
  split at hv<;>first|(cases hv;rfl)|(cases hv;done)
 case bin op x y=>
  unfold fV at hv
  split at hv
  · split at hv
    · exact kT hv
    · cases hv
  · exact nB hv
  · cases hv
 case j2 op x y=>
  unfold X9 at hv
  split at hv<;>first|(cases hv;rfl)|(cases hv;done)
 case un op x=>
  unfold unA at hv
  split at hv<;>first|(cases hv;rfl)|(cases hv;done)
 case conv k x=>
  unfold Xd at hv
  split at hv<;>first|(cases hv;rfl)|(cases hv;done)
 case bld z ps=>simp only [AJ] at hv;obtain ⟨_,_,rfl⟩:=hv;rfl
 case bsl s n z ps=>simp only [AJ] at hv;obtain ⟨_,_,rfl⟩:=hv;rfl
 case mkf f x y=>
  split at hv
  · cases hv;rfl
  · cases hv
 case ext x i=>
  unfold gH at hv
  split at hv
  · simp only [AB] at hv
    obtain ⟨v0,_,hv⟩:=hv
    obtain ⟨rfl,hn⟩:=WE hv
    exact UG hn d
  · cases hv
 case nck x=>
  have hx:=Qx h hc
  generalize xv F x=p at hv hx
  cases p<;>simp only [lR] at hv<;>try (cases hv;done)
  · rename_i dx;cases dx<;>simp only at hv<;>first|(cases hv;done)|(cases hv;rfl)
  · cases hv;exact hx
  · cases hv;rfl
  · cases hv;rfl
 case mm b x y=>exact eN hv
 case fd x off n=>
  generalize xv F x=p at hv
  cases p<;>simp only [fdA] at hv<;>try (cases hv;done)
  exact RN hv
 case ssl x lo hi=>
  unfold VG at hv
  split at hv
  · simp only [AJ] at hv;obtain ⟨_,_,rfl⟩:=hv;rfl
  · cases hv
 case sls x lo hi mx n=>
  unfold iU at hv
  split at hv
  · split at hv
    · cases hv;rfl
    · cases hv
  · simp only [AB] at hv
    obtain ⟨_,_,hv⟩:=hv
    split at hv
    · cases hv;rfl
    · cases hv
  · simp only [AB] at hv
    obtain ⟨_,_,hv⟩:=hv
    split at hv
    · cases hv;rfl
    · cases hv
  simp only [AB] at hv
  obtain ⟨rows,_,hv⟩:=hv
  unfold Yp at hv
  split at hv
  · simp only [AB] at hv
    obtain ⟨b,_,hv⟩:=hv
    split at hv
    · cases hv;rfl
    · split at hv
      · cases hv;rfl
      · cases hv
    · cases hv
  · cases hv
 case cI ne x=>
  unfold Xt at hv
  split at hv<;>first|(cases hv;rfl)|(cases hv;done)
 case cX ne n x y=>
  unfold Xy at hv
  split at hv
  · split at hv
    · simp only [AJ] at hv;obtain ⟨_,_,rfl⟩:=hv;rfl
    · cases hv
  · cases hv
 case mm3 b x y z=>
  simp only [AB] at hv
  obtain ⟨_,_,hv⟩:=hv
  exact eN hv
 case j3 x=>simp only [AJ] at hv;obtain ⟨_,_,rfl⟩:=hv;rfl
theorem D7 {dst:Option Nat} (h:dst≠some d) (v x:AV) (F:Fm):An dst v (put d x F)=put d x (An dst v F):=
 UO (d:=dst) (e:=some d) (fun k hk he=>h (by rw [hk,he])) v x F
theorem Q8 {k:Nat} (h:d≠k) (F:Fm):Co k (put d (.lp d 0) F)=put d (.lp d 0) (Co k F):=by
 funext s
 simp only [Co,put]
 by_cases e:s=d
 · subst e;simp [AV.BO,h]
 · simp [e]
theorem UN {k:Nat} (h:k≠d) (x y:List AV) (L:Lm):Bd k x (Bd d y L)=Bd d y (Bd k x L):=by
 funext s
 simp only [Bd]
 by_cases e:s=k
 · subst e;simp [h]
 · simp [e]
theorem rR {o:O} {dst:Option Nat} (hN:Off d F) (hc:RE o=true) (hl:∀s∈I5 o,s≠d) (hd:dst≠some d) (hx:XO P dst K (put d (.lp d 0) F) (Bd d z L) σ o):
 XO P dst (fun F' L' σ'=>Off d F'∧K (put d (.lp d 0) F') (Bd d z L') σ') F L σ o:=by
 have hF:∀s∈I5 o,put d (.lp d 0) F s=F s:=fun s hs=>by simp [put,hl s hs]
 by_cases hV:isV o=true
 · rw [fM hV] at hx ⊢
   obtain ⟨u,h1,h2⟩:=hx
   have h1:=V8 hF h1
   have h3:Yv P F L σ u o∧u.BO d=false:=by
    cases o<;>try (cases hV;done)
    case Ue f args=>exact ⟨h1,UG h1.2.1 d⟩
    all_goals
     simp only [Yv] at h1 ⊢
     rw [tI hN hc] at h1
     exact ⟨h1,p9 hN hc h1⟩
   refine ⟨u,h3.1,hN.An h3.2,?_⟩
   rw [← D7 hd];exact h2
 · cases o<;>simp only [isV,not_true_eq_false] at hV<;>simp only [I5,BP] at hF
   case box x sh=>
    simp only [XO,RU] at hx ⊢
    rw [← Ay hF]
    refine ⟨hx.1,?_⟩
    have hx:=hx.2
    cases dst with
    |none=>exact hx.elim
    |some e=>
     have hne:d≠e:=fun h=>hd (by rw [h])
     cases sh with
     |true=>exact fun i hi=>⟨hN.An (dst:=some e) (v:= .gp i 0) rfl,by have:=hx i hi;rw [show put e (.gp i 0) (put d (.lp d 0) F)=put d (.lp d 0) (put e (.gp i 0) F) from D7 (dst:=some e) hd _ _ _] at this;exact this⟩
     |false=>
      refine ⟨(hN.Co e).An (dst:=some e) (v:= .lp e 0) (by simp [AV.BO];exact Ne.symm hne),?_⟩
      have hx:K (put e (.lp e 0) (Co e (put d (.lp d 0) F))) (Bd e (xv (put d (.lp d 0) F) x).cells (Bd d z L)) σ:=hx
      rw [Q8 hne,UN (Ne.symm hne),show put e (.lp e 0) (put d (.lp d 0) (Co e F))=put d (.lp d 0) (put e (.lp e 0) (Co e F)) from D7 (dst:=some e) hd _ _ _] at hx
      exact hx
   case al y sh=>
    simp only [XO,RU] at hx ⊢
    refine ⟨hx.1,?_⟩
    have hx:=hx.2
    cases dst with
    |none=>exact hx.elim
    |some e=>
     have hne:d≠e:=fun h=>hd (by rw [h])
     cases sh with
     |true=>exact fun i hi=>⟨hN.An (dst:=some e) (v:= .gp i 0) rfl,by have:=hx i hi;rw [show put e (.gp i 0) (put d (.lp d 0) F)=put d (.lp d 0) (put e (.gp i 0) F) from D7 (dst:=some e) hd _ _ _] at this;exact this⟩
     |false=>
      refine ⟨(hN.Co e).An (dst:=some e) (v:= .lp e 0) (by simp [AV.BO];exact Ne.symm hne),?_⟩
      have hx:K (put e (.lp e 0) (Co e (put d (.lp d 0) F))) (Bd e y (Bd d z L)) σ:=hx
      rw [Q8 hne,UN (Ne.symm hne),show put e (.lp e 0) (put d (.lp d 0) (Co e F))=put d (.lp d 0) (put e (.lp e 0) (Co e F)) from D7 (dst:=some e) hd _ _ _] at hx
      exact hx
   case st x y n=>
    simp only [XO,XSt] at hx ⊢
    rw [Ay (F:=put d (.lp d 0) F) (F':=F) (fun s hs=>hF s (.inl hs)),Ay (F:=put d (.lp d 0) F) (F':=F) (fun s hs=>hF s (.inr hs))] at hx
    obtain ⟨h1,h2,h3,h4⟩:=hx
    refine ⟨h1,h2,h3,?_⟩
    have hp:=Qx hN hc
    generalize xv F x=p at hp h4
    cases p<;>simp only [stA] at h4 ⊢<;>try (exact h4.elim)
    · rename_i k o2
      have hk:k≠d:=by simpa [AV.BO] using hp
      rw [Yh hk] at h4
      cases hL:L k with
      |none=>rw [hL] at h4;exact h4.elim
      |some cs=>
       rw [hL] at h4
       simp only [BZ] at h4 ⊢
       by_cases hle:o2+(xv F y).cells.length≤cs.length
       · rw [if_pos hle] at h4 ⊢
         refine ⟨hN,?_⟩
         have h4:K (put d (.lp d 0) F) (Bd k (wr cs o2 (xv F y).cells) (Bd d z L)) σ:=h4
         rw [UN hk] at h4;exact h4
       · rw [if_neg hle] at h4;exact h4.elim
    · rename_i i o2
      cases hb:σ.blk i with
      |none=>rw [hb] at h4;exact h4.elim
      |some cs=>
       rw [hb] at h4
       simp only [BZ] at h4 ⊢
       by_cases hle:o2+(xv F y).cells.length≤cs.length
       · rw [if_pos hle] at h4 ⊢;exact ⟨hN,h4⟩
       · rw [if_neg hle] at h4;exact h4.elim
   case msl e s b y l c=>
    obtain ⟨k,k',n,h1,h2,h3,h4,h5,h6⟩:=hx
    refine ⟨k,k',n,by rw [← Ay (fun s hs=>hF s (.inl hs))];exact h1,by rw [← Ay (fun s hs=>hF s (.inr hs))];exact h2,h3,h4,h5,fun i hi=>⟨hN.An rfl,?_⟩⟩
    rw [← D7 hd];exact h6 i hi
   case app e s b x y=>
    rcases hx with ⟨rows,σ1,srows,h1,h2,h3,h4,h5,h6⟩|⟨rows,srows,h1,h2,h3,h4,h5,h6,h7⟩
    · refine .inl ⟨rows,σ1,srows,by rw [← Ay (fun s hs=>hF s (.inl hs))];exact h1,by rw [← Ay (fun s hs=>hF s (.inr hs))];exact h2,h3,h4,h5,fun t ht=>⟨hN.An rfl,?_⟩⟩
      rw [← D7 hd];exact h6 t ht
    · refine .inr ⟨rows,srows,by rw [← Ay (fun s hs=>hF s (.inl hs))];exact h1,by rw [← Ay (fun s hs=>hF s (.inr hs))];exact h2,h3,h4,h5,h6,⟨hN.An rfl,?_⟩⟩
      rw [← D7 hd];exact h7
   case Wy e s b x y=>
    obtain ⟨n,cs,σ1,srows,h1,h2,h3,h4,h5,h6,h7⟩:=hx
    refine ⟨n,cs,σ1,srows,by rw [← Ay (fun s hs=>hF s (.inl hs))];exact h1,by rw [← Ay (fun s hs=>hF s (.inr hs))];exact h2,h3,fun e=>⟨hN.An ?_,?_⟩,h5,h6,fun e t ht=>⟨hN.An rfl,?_⟩⟩
    · unfold Rl at h1
      rw [← Ay (fun s hs=>hF s (.inl hs))]
      generalize xv _ x=xx at h1
      cases xx<;>first|rfl|(cases h1;done)
    · rw [← D7 hd,← Ay (fun s hs=>hF s (.inl hs))];exact h4 e
    · rw [← D7 hd];exact h7 e t ht
   case trn x y=>
    obtain ⟨k,s,e,cs,σ1,h1,h2⟩:=hx
    refine ⟨k,s,e,cs,σ1,by rw [← Ay (fun s hs=>hF s (.inl hs)),← Ay (fun s hs=>hF s (.inr hs))];exact h1,fun t ht=>⟨hN.An rfl,?_⟩⟩
    rw [← D7 hd];exact h2 t ht
   case Le e s l y ps=>
    obtain ⟨cs,h1,h2⟩:=hx
    refine ⟨cs,by rw [← Mb _ _ hF];exact h1,h2.imp (fun h2 t ht=>⟨hN.An rfl,?_⟩) fun ⟨ds,h3,h4,h5⟩=>⟨ds,h3,h4,fun t ht=>⟨hN.An rfl,?_⟩⟩⟩
    · rw [← D7 hd];exact h2 t ht
    · rw [← D7 hd];exact h5 t ht
   case call f args=>
    obtain ⟨h1,R,h2,h3⟩:=hx
    rw [Fv hF] at h1 h2
    refine ⟨h1,_,h2.BO d,fun u σ' hv=>⟨hN.An hv.2,?_⟩⟩
    rw [← D7 hd];exact h3 u σ' hv.1
   case Dr x args=>
    obtain ⟨f,first,caps,h0,hb,h1,R,h2,h3⟩:=hx
    rw [Fv (fun s hs=>hF s (.inr hs))] at h1 h2
    refine ⟨f,first,caps,by rw [← Ay (fun s hs=>hF s (.inl hs))];exact h0,hb,h1,_,h2.BO d,fun u σ' hv=>⟨hN.An hv.2,?_⟩⟩
    rw [← D7 hd];exact h3 u σ' hv.1
   case ex k xs=>
    simp only [XO,XEx,hV,AY,if_false] at hx ⊢
    rw [Fv hF] at hx
    refine ⟨hx.1,hx.2.mono fun u σ' hu hv=>⟨hN.An (hu d),?_⟩⟩
    rw [← D7 hd];exact hv
theorem rT {q:Q} (hN:Off d F) (hc:RE q.o=true) (hl:∀s∈q.looks,s≠d) (hd:q.dst≠some d) (hx:XQ P q K (put d (.lp d 0) F) (Bd d z L) σ):
 XQ P q (fun F' L' σ'=>Off d F'∧K (put d (.lp d 0) F') (Bd d z L') σ') F L σ:=by
 have h1:∀s∈I5 q.o,s≠d:=fun s hs=>hl s (by simp [Q.looks,hs])
 unfold XQ at hx ⊢
 rw [Vl (F:=put d (.lp d 0) F) (F':=F) (fun s hs=>by simp [put,hl s hs])] at hx
 cases hc2:gd F q.grd with
 |none=>rw [hc2] at hx;exact hx.elim
 |some b=>
  rw [hc2] at hx
  cases b
  · have hx:K (An q.dst (.tup []) (put d (.lp d 0) F)) (Bd d z L) σ:=hx
    rw [D7 hd] at hx
    exact ⟨hN.An rfl,hx⟩
  · exact rR hN hc h1 hd hx
theorem iO (h:Off d F):Co d F=F:=by
 funext s
 simp [Co,h s]
def rG (tab:Array Nat) (qs:List Q) (i d:Nat):Bool:=
 qs.zipIdx.all fun (qj,j)=>j==i||(tab.getD j 0).testBit i||(RE qj.o&& !qj.looks.contains d&&qj.dst != some d)
theorem qM {ops:Array Oper} {tab:Array Nat} (htab:∀j i,(tab.getD j 0).testBit i=true→Anc ops j i) {qs:List Q} {i:Nat} (hi:qs[i]?=some ⟨some d,.al z false,none⟩) (hz:Ad z=true) (hlay:rG tab qs i d=true):
 ∀(fuel:Nat) (listed:Array Bool) (F:Fm) (L:Lm) (σ:AN),IB ops listed→listed.size=ops.size→i∈Region.ready .any ops listed→Off d F→
  Td P ops qs K fuel (listed.setIfInBounds i true) (put d (.lp d 0) F) (Bd d z L) σ→Td P ops qs K (fuel+1) listed F L σ:=by
 have hself:∀(K2:CO) (F:Fm) (L:Lm) (σ:AN),Off d F→K2 (put d (.lp d 0) F) (Bd d z L) σ→XQ P ⟨some d,.al z false,none⟩ K2 F L σ:=fun K2 F L σ hN h=>by
  show RU z false (some d) K2 F L σ
  refine ⟨hz,?_⟩
  show K2 (put d (.lp d 0) (Co d F)) (Bd d z L) σ
  rw [iO hN];exact h
 intro fuel
 induction fuel with
 |zero=>
  intro listed F L σ hcl hsz hr hN H
  refine ⟨fun h=>(by rw [h] at hr;cases hr),fun j hj=>?_⟩
  by_cases hji:i=j
  · subst hji;exact ⟨_,hi,hself _ _ _ _ hN H⟩
  · have:=Nd hj hji
    rw [H.1] at this;cases this
 |succ fuel ih=>
  intro listed F L σ hcl hsz hr hN H
  refine ⟨fun h=>(by rw [h] at hr;cases hr),fun j hj=>?_⟩
  by_cases hji:i=j
  · subst hji;exact ⟨_,hi,hself _ _ _ _ hN H⟩
  · obtain ⟨qj,hqj,hxj⟩:=H.2 j (Nd hj hji)
    obtain ⟨hjlt,hjun,oj,hoj,hjall⟩:=Ja.1 hj
    have hiun:=(Ja.1 hr).2.1
    have hilt:=(Ja.1 hr).1
    have hmem:(qj,j)∈qs.zipIdx:=by rw [RS];exact hqj
    have hb:=A4.1 hlay (qj,j) hmem
    simp only [BJ,beq_iff_eq,AK,Dy,bne_iff_ne] at hb
    rcases hb with (hb|hanc)|⟨⟨hc,hlk⟩,hdst⟩
    · exact absurd hb.symm hji
    · have h1:=Va hcl (htab j i hanc) (fun o ho=>by rw [hoj] at ho;cases ho;exact hjall)
      rw [CX,Ko (by omega)] at h1 hiun
      simp at h1 hiun
      rw [h1] at hiun;cases hiun
    · refine ⟨qj,hqj,?_⟩
      have hlk':∀s∈qj.looks,s≠d:=fun s hs he=>by subst he;rw [← Bool.not_eq_true,BV] at hlk;exact hlk hs
      have hcomm:(listed.setIfInBounds i true).setIfInBounds j true=(listed.setIfInBounds j true).setIfInBounds i true:=Array.setIfInBounds_comm _ _ hji
      refine SN (fun F' L' σ' h=>?_) (rT hN hc hlk' hdst hxj)
      refine ih _ F' L' σ' (hcl.set hj) (by simpa using hsz) (Nd hr (Ne.symm hji)) h.1 ?_
      rw [← hcomm];exact h.2
def Mz:List Nat→Fm→Fm
 |[],F=>F
 |d::ds,F=>Mz ds (Co d F)
theorem Uh:∀(ds:List Nat) (F:Fm) (s:Nat),Mz ds F s=F s∨Mz ds F s= .undef
 |[],F,s=>.inl rfl
 |d::ds,F,s=>by
  rcases Uh ds (Co d F) s with h|h
  · rw [Mz,h];simp only [Co];split<;>simp
  · exact .inr h
theorem WO:∀(ds:List Nat) (F:Fm) (d:Nat),(d∈ds∨Off d F)→Off d (Mz ds F)
 |[],F,d,h=>by
  rcases h with h|h
  · cases h
  · exact h
 |e::ds,F,d,h=>by
  refine WO ds (Co e F) d ?_
  rcases h with h|h
  · cases h with
    |head=>exact .inr (Xm _ F)
    |tail _ h=>exact .inl h
  · exact .inr (h.Co e)
theorem WQ:∀(ds:List Nat) (F:Fm) (d:Nat),d ∉ ds→Mz ds (put d (.lp d 0) F)=put d (.lp d 0) (Mz ds F)
 |[],F,d,_=>rfl
 |e::ds,F,d,h=>by
  simp only [By,not_or] at h
  simp only [Mz]
  rw [Q8 h.1,WQ ds _ d h.2]
def Nx:PT→List Nat×PT
 | .lay i t=>(i::(Nx t).1,(Nx t).2)
 |t=>([],t)
def k9 (qs:List Q):List Nat→Option (List (Nat×Nat×List AV))
 |[]=>some []
 |i::l=>match qs[i]? with
  |some ⟨some d,.al z false,none⟩=>if Ad z then (k9 qs l).map ((i,d,z)::·) else none
  |_=>none
def UA (ops:Array Oper) (tab:Array Nat) (qs:List Q):List (Nat×Nat×List AV)→Array Bool→Bool
 |[],_=>true
 |(i,d,_)::r,listed=>(Region.ready .any ops listed).contains i&&rG tab qs i d&& !(r.map (·.2.1)).contains d&&UA ops tab qs r (listed.setIfInBounds i true)
def W6:List Nat→Array Bool→Array Bool
 |[],a=>a
 |i::l,a=>W6 l (a.setIfInBounds i true)
def sS:List (Nat×Nat×List AV)→Fm→Fm
 |[],F=>F
 |(_,d,_)::r,F=>sS r (put d (.lp d 0) (Co d F))
def sT:List (Nat×Nat×List AV)→Lm→Lm
 |[],L=>L
 |(_,d,z)::r,L=>sT r (Bd d z L)
theorem YH {ops:Array Oper} {tab:Array Nat} (htab:∀j i,(tab.getD j 0).testBit i=true→Anc ops j i) {qs:List Q} {n:Nat}:∀(ls:List (Nat×Nat×List AV)) (listed:Array Bool) (F:Fm) (L:Lm) (σ:AN),
 (∀x∈ls,qs[x.1]?=some ⟨some x.2.1,.al x.2.2 false,none⟩∧Ad x.2.2=true)→UA ops tab qs ls listed=true→IB ops listed→listed.size=ops.size→
 Td P ops qs K n (W6 (ls.map (·.1)) listed) (sS ls F) (sT ls L) σ→Td P ops qs K (n+ls.length) listed (Mz (ls.map (·.2.1)) F) L σ
 |[],listed,F,L,σ,_,_,_,_,h=>h
 |(i,d,z)::r,listed,F,L,σ,hq,hok,hcl,hsz,h=>by
  simp only [UA,AK,BV,Dy] at hok
  obtain ⟨⟨⟨hr,hlay⟩,hnd⟩,hrest⟩:=hok
  have hnd':d ∉ r.map (·.2.1):=fun hm=>by rw [← Bool.not_eq_true,BV] at hnd;exact hnd hm
  obtain ⟨hi,hz⟩:=hq (i,d,z) (by simp)
  have ih:=YH htab (n:=n) r (listed.setIfInBounds i true) (put d (.lp d 0) (Co d F)) (Bd d z L) σ (fun x hx=>hq x (by simp [hx])) hrest (hcl.set hr) (by simpa using hsz) h
  rw [WQ _ _ _ hnd'] at ih
  exact qM htab hi hz hlay (n+r.length) listed _ L σ hcl hsz hr (WO (r.map (·.2.1)) (Co d F) d (.inr (Xm d F))) ih
theorem SI {ops:Array Oper} {tab:Array Nat} {qs:List Q}:∀(ls:List (Nat×Nat×List AV)) (listed:Array Bool),UA ops tab qs ls listed=true→IB ops listed→listed.size=ops.size→IB ops (W6 (ls.map (·.1)) listed)∧(W6 (ls.map (·.1)) listed).size=ops.size
 |[],listed,_,hc,hs=>⟨hc,hs⟩
 |(i,d,z)::r,listed,hok,hcl,hsz=>by
  simp only [UA,AK,BV] at hok
  exact SI r _ hok.2 (hcl.set hok.1.1.1) (by simpa using hsz)
def eW (ls:List (Nat×Nat×List AV)) (t:QT):QT:=ls.foldr (fun x acc=>.one ⟨some x.2.1,.al x.2.2 false,none⟩ acc) t
theorem Zn:∀(ls:List (Nat×Nat×List AV)) (t:QT) (F:Fm) (L:Lm),XT P K false (eW ls t) F L σ→XT P K false t (sS ls F) (sT ls L) σ
 |[],t,F,L,h=>h
 |(i,d,z)::r,t,F,L,h=>by
  have h:XQ P ⟨some d,.al z false,none⟩ (XT P K false (eW r t)) F L σ:=h
  have h:RU z false (some d) (XT P K false (eW r t)) F L σ:=h
  exact Zn r t _ _ h.2
def Vg (P:Program) (N:Nat) (esc:List Nat) (pf:List FuncId) (pt:PT) (ops:Array Oper):Option QT:=do
 let qs ← Lo P N esc ops (Hs ops.size)
 let qs:=qs.map (toP pf)
 let tab:=Tf ops.toList #[]
 let ls ← k9 qs (Nx pt).1
 let l0:=EO ops.size false
 if UA ops tab qs ls l0&&MG ops tab qs (Nx pt).2 (W6 (ls.map (·.1)) l0) none&&decide ((Nx pt).2.depth+ls.length≤ops.size) then (T1 qs (Nx pt).2).map (eW ls) else none
theorem Xk {qs:List Q}:∀(l:List Nat) (ls:List (Nat×Nat×List AV)),k9 qs l=some ls→∀x∈ls,qs[x.1]?=some ⟨some x.2.1,.al x.2.2 false,none⟩∧Ad x.2.2=true
 |[],ls,h,x,hx=>by simp only [k9,AP] at h;subst h;cases hx
 |i::l,ls,h,x,hx=>by
  simp only [k9] at h
  split at h
  · rename_i d z hq
    split at h
    · rename_i hz
      simp only [AJ] at h
      obtain ⟨r,hr,rfl⟩:=h
      cases hx with
      |head=>exact ⟨hq,hz⟩
      |tail _ hx=>exact Xk l r hr x hx
    · cases h
  · cases h
theorem X2 {ops:Array Oper} {qs:List Q}:∀(n m:Nat) (listed:Array Bool) (F:Fm) (L:Lm) (σ:AN),n≤m→Td P ops qs K n listed F L σ→Td P ops qs K m listed F L σ
 |0,0,listed,F,L,σ,_,h=>h
 |0,m+1,listed,F,L,σ,_,h=>⟨fun _=>h.2,fun i hi=>by rw [h.1] at hi;cases hi⟩
 |n+1,0,listed,F,L,σ,hle,h=>by omega
 |n+1,m+1,listed,F,L,σ,hle,h=>⟨h.1,fun i hi=>by
  obtain ⟨q,hq,hx⟩:=h.2 i hi
  exact ⟨q,hq,SN (fun F L σ h=>X2 n m _ F L σ (by omega) h) hx⟩⟩
theorem BQ.vV (h:BQ base g lam Pr N F L σ a w0 w) {F':Fm} (hF:∀s,F' s=F s∨F' s= .undef):BQ base g lam Pr N F' L σ a w0 w:=by
 refine ⟨fun s=>?_,h.sz,h.df,h.loc,h.inj,h.npr,h.rel⟩
 rcases hF s with e|e
 · rw [e];exact h.tm s
 · rw [e];exact VR.undef
theorem U7 {ops:Array Oper} {esc:List Nat} {pf:List FuncId} {pt:PT} {qt:QT} (hm:P.follows .mixedOrders=true) (hc:Vg P N esc pf pt ops=some qt) (hx:XT P K false qt F L σ)
 (h:BQ base g lam Pr N F L σ a w0 w) {id:Nat}:(Code.region id ops true).wp P (fun e a' w'=>e= .normal∧E3 base Pr N w0 g w K a' w') a w:=by
 simp only [Vg,AR,AB] at hc
 obtain ⟨qs0,hq0,ls,hls,hc⟩:=hc
 split at hc
 case isFalse=>cases hc
 rename_i hp
 simp only [AK,decide_eq_true_eq] at hp
 simp only [AJ] at hc
 obtain ⟨t,ht,rfl⟩:=hc
 have hcl:IB ops (EO ops.size false):=by
  intro j o ho hj
  have:(EO ops.size false).getD j false=false:=by
   simp only [CX,Array.getElem?_replicate];split<;>rfl
  rw [this] at hj;cases hj
 obtain ⟨hcl2,hsz2⟩:=SI ls _ hp.1.1 hcl (by simp)
 have hx2:=Zn ls t F L hx
 have hany1:=(VV (P:=P) (K:=K) (fun j i=>UY) _ t ht).1 _ _ _ _ σ (A7 _) hp.1.2 hcl2 hsz2 hx2
 have hany2:=YH (P:=P) (K:=K) (tab:=Tf ops.toList #[]) (fun j i=>UY) ls _ F L σ (Xk _ ls hls) hp.1.1 hcl (by simp) hany1
 have hany:=X2 _ ops.size _ _ _ _ hp.2 hany2
 refine wp_region_any hm ?_
 have hF:=h.vV (Uh (ls.map (·.2.1)) F)
 have hdrew:BQ base g lam Pr N (Mz (ls.map (·.2.1)) F) L σ a w0 { w with drawn:=w.drawn+1}:=
  hF.step (w':=w.drew) (Gh.le_refl g) (fun k b hb=>rfl) (hF.rel.grow (w':=w.drew) (A7 _) (fun _ _ _=>rfl) ((Below.refl base w).drew) (fun b hb=>⟨(hF.rel.pr b hb).1,.inl hb⟩))
 exact Sl hq0 K _ _ base g lam Pr _ L σ a w0 _ hany hdrew (fun a' w' hA=>⟨rfl,E3.trans (Gh.le_refl g) ⟨A7 _,fun _ _=>rfl⟩ hA⟩)
def lin:QT→Option (List Q)
 | .done=>some []
 | .one q t=>(lin t).map (q::·)
 | .alt _ _ _=>none
theorem lL:∀(t:QT) (ops:List Q) (F:Fm) (L:Lm) (σ:AN),lin t=some ops→BI P K ops F L σ→XT P K false t F L σ
 | .done,ops,F,L,σ,h,hx=>by simp only [lin,AP] at h;subst h;exact hx
 | .one q t,ops,F,L,σ,h,hx=>by
  simp only [lin,AJ] at h
  obtain ⟨l,hl,rfl⟩:=h
  exact SN (fun F L σ h=>lL t l F L σ hl h) hx
 | .alt _ _ _,ops,F,L,σ,h,_=>by simp [lin] at h
end Go.Ab
