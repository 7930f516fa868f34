/- Regions that draw their order, continued: where operations do not commute, every order is looked at. Regions that draw their order, continued: new local variables may be laid first. Conditions: none. -/
import Derived.Test.YtlckhmkeihbhmaaGreatXAb10b
set_option linter.unusedSimpArgs false
set_option linter.unusedVariables false
set_option maxRecDepth 4000
set_option maxHeartbeats 8000000
open Bool renaming false_eq_true→AZ,and_eq_true→AQ,or_eq_true→DZ,not_eq_true'→Cb
open Option.some renaming injEq→AK
open List renaming all_eq_true→As,contains_iff_mem→Aa,mem_singleton→B5,mem_zipIdx_iff_getElem?→PY,mem_append→A3,mem_cons→Bf,range→Ae
open Option renaming bind_eq_some_iff→AB,map_eq_some_iff→AE,getD_some→Nk,bind_some→Gm,bind_eq_bind→AN
open Ne renaming symm→Bs
open Array renaming getD_eq_getD_getElem?→Ca,getElem?_eq_getElem→Jg,replicate→EL
open Nat renaming le_refl→A0
namespace Go.Ab
open Go.RowKit
variable {P:Program} {base N:Nat} {g g':Gh} {Pr:Nat→Prop} {σ σ':AF} {w0 w w':World} {lam:Nat→Option Nat} {F:Fm} {L:Lm} {a:Act} {K:CV}
theorem ZN {o:O} {dst:Option Nat} {K':CV} (hk:∀F L σ,K F L σ→K' F L σ) (hx:XO P dst K F L σ o):XO P dst K' F L σ o:=by
 by_cases hV:isV o=true
 · rw [cI hV] at hx ⊢
   obtain ⟨v,h1,h2⟩:=hx
   exact ⟨v,h1,hk _ _ _ h2⟩
 · cases o<;>simp only [isV,not_true_eq_false] at hV
   case box x sh=>
    simp only [XO,PZ] at hx ⊢
    refine ⟨hx.1,?_⟩
    have hx:=hx.2
    cases dst with
    |none=>exact hx.elim
    |some d=>cases sh with
     |true=>exact fun i hi=>hk _ _ _ (hx i hi)
     |false=>exact hk _ _ _ hx
   case al z sh=>
    simp only [XO,PZ] at hx ⊢
    refine ⟨hx.1,?_⟩
    have hx:=hx.2
    cases dst with
    |none=>exact hx.elim
    |some d=>cases sh with
     |true=>exact fun i hi=>hk _ _ _ (hx i hi)
     |false=>exact hk _ _ _ hx
   case st x v n=>
    simp only [XO,XSt] at hx ⊢
    obtain ⟨h1,h2,h3,h4⟩:=hx
    refine ⟨h1,h2,h3,?_⟩
    split at h4
    · exact hk _ _ _ h4
    · exact h4.elim
   case msl e s b z l c=>
    obtain ⟨k,k',n,h1,h2,h3,h4,h5,h6⟩:=hx
    exact ⟨k,k',n,h1,h2,h3,h4,h5,fun i hi=>hk _ _ _ (h6 i hi)⟩
   case UO e s b x y=>
    obtain ⟨n,cs,σ1,srows,h1,h2,h3,h4,h5,h6,h7⟩:=hx
    exact ⟨n,cs,σ1,srows,h1,h2,h3,fun e=>hk _ _ _ (h4 e),h5,h6,fun e t ht=>hk _ _ _ (h7 e t ht)⟩
   case trn x y=>
    obtain ⟨k,s,e,cs,σ1,h1,h2⟩:=hx
    exact ⟨k,s,e,cs,σ1,h1,fun t ht=>hk _ _ _ (h2 t ht)⟩
   case QX e s l z ps=>
    obtain ⟨cs,h1,h2⟩:=hx
    exact ⟨cs,h1,h2.imp (fun h2 t ht=>hk _ _ _ (h2 t ht)) fun ⟨ds,h3,h4,h5⟩=>⟨ds,h3,h4,fun t ht=>hk _ _ _ (h5 t ht)⟩⟩
   case app e s b x y=>
    rcases hx with ⟨rows,σ1,srows,h1,h2,h3,h4,h5,h6⟩|⟨rows,srows,h1,h2,h3,h4,h5,h6,h7⟩
    · exact .inl ⟨rows,σ1,srows,h1,h2,h3,h4,h5,fun t ht=>hk _ _ _ (h6 t ht)⟩
    · exact .inr ⟨rows,srows,h1,h2,h3,h4,h5,h6,hk _ _ _ h7⟩
   case call f args=>
    obtain ⟨h1,R,h2,h3⟩:=hx
    exact ⟨h1,R,h2,fun v σ' hv=>hk _ _ _ (h3 v σ' hv)⟩
   case FV x args=>
    obtain ⟨f,first,caps,h0,hb,h1,R,h2,h3⟩:=hx
    exact ⟨f,first,caps,h0,hb,h1,R,h2,fun v σ' hv=>hk _ _ _ (h3 v σ' hv)⟩
   case ex k xs=>
    simp only [XO,XEx,hV,AZ,if_false] at hx ⊢
    exact ⟨hx.1,hx.2.mono fun v σ' _ hv=>hk _ _ _ hv⟩
theorem Mn {q:Q} {K':CV} (hk:∀F L σ,K F L σ→K' F L σ) (hx:XQ P q K F L σ):XQ P q K' F L σ:=by
 unfold XQ at hx ⊢
 cases hc:gd F q.grd with
 |none=>rw [hc] at hx;exact hx.elim
 |some b=>
  rw [hc] at hx
  cases b
  · exact hk _ _ _ hx
  · exact ZN hk hx
inductive PT where
 |done
 |one (i:Nat) (t:PT)
 |alt (i:Nat) (t r:PT)
 |lay (i:Nat) (t:PT)
inductive QT where
 |done
 |one (q:Q) (t:QT)
 |alt (q:Q) (t r:QT)
def XT (P:Program) (K:CV):Bool→QT→CV
 |false,.done=>K
 |true,.done=>fun _ _ _=>True
 |_,.one q t=>XQ P q (XT P K false t)
 |_,.alt q t r=>fun F L σ=>XQ P q (XT P K false t) F L σ∧XT P K true r F L σ
def PT.depth:PT→Nat
 | .done=>0
 | .one _ t=>t.depth+1
 | .alt _ t r=>max (t.depth+1) r.depth
 | .lay _ t=>t.depth+1
def Rf (qs:List Q):PT→Option QT
 | .done=>some .done
 | .one i t=>(qs[i]?).bind fun q=>(Rf qs t).map (.one q ·)
 | .alt i t r=>(qs[i]?).bind fun q=>(Rf qs t).bind fun t'=>(Rf qs r).map (.alt q t' ·)
 | .lay i t=>(qs[i]?).bind fun q=>(Rf qs t).map (.one q ·)
def Ko (ops:Array Oper) (tab:Array Nat) (qs:List Q):PT→Array Bool→Option (List Nat)→Bool
 | .done,listed,none=>(Region.ready .any ops listed).isEmpty
 | .done,listed,some l=>(Region.ready .any ops listed).all (l.contains ·)
 | .one i t,listed,none=>(Region.ready .any ops listed).contains i&&(Region.ready .any ops listed==[i]||Tz tab qs listed i)&&Ko ops tab qs t (listed.setIfInBounds i true) none
 | .one i t,listed,some l=>(Region.ready .any ops listed).contains i&&(Region.ready .any ops listed).all (fun j=>j==i||l.contains j)&&Ko ops tab qs t (listed.setIfInBounds i true) none
 | .alt i t r,listed,e=>(Region.ready .any ops listed).contains i&&Ko ops tab qs t (listed.setIfInBounds i true) none&&Ko ops tab qs r listed (some (i::e.getD []))
 | .lay _ _,_,_=>false
theorem UE {ops:Array Oper} {tab:Array Nat} (htab:∀j i,(tab.getD j 0).testBit i=true→Anc ops j i) {qs:List Q}:∀(t:PT) (qt:QT),Rf qs t=some qt→
 (∀n listed F L σ,t.depth≤n→Ko ops tab qs t listed none=true→Hc ops listed→listed.size=ops.size→XT P K false qt F L σ→Rv P ops qs K n listed F L σ)∧
 (∀n listed l F L σ,t.depth≤n+1→Ko ops tab qs t listed (some l)=true→Hc ops listed→listed.size=ops.size→XT P K true qt F L σ→
   ∀j∈Region.ready .any ops listed,j ∉ l→∃q,qs[j]?=some q∧XQ P q (Rv P ops qs K n (listed.setIfInBounds j true)) F L σ)
 | .done,qt,hp=>by
  simp only [Rf,AK] at hp;subst hp
  refine ⟨fun n listed F L σ _ hp _ _ hx=>?_,fun n listed l F L σ _ hp _ _ _ j hj hjl=>?_⟩
  · simp only [Ko,List.isEmpty_iff] at hp
    cases n with
    |zero=>exact ⟨hp,hx⟩
    |succ n=>exact ⟨fun _=>hx,fun i hi=>by rw [hp] at hi;cases hi⟩
  · simp only [Ko,As,Aa] at hp
    exact absurd (hp j hj) hjl
 | .one i t,qt,hp=>by
  simp only [Rf,AB,AE] at hp
  obtain ⟨q,hq,t',ht',rfl⟩:=hp
  obtain ⟨ih,_⟩:=UE htab t t' ht'
  refine ⟨fun n listed F L σ hd hp hcl hsz hx=>?_,fun n listed l F L σ hd hp hcl hsz hx j hj hjl=>?_⟩
  · simp only [PT.depth] at hd
    obtain ⟨m,rfl⟩:∃m,n=m+1:=⟨n - 1,by omega⟩
    simp only [Ko,AQ,DZ,Aa,beq_iff_eq] at hp
    obtain ⟨⟨hr,hok⟩,hrest⟩:=hp
    have hx:XQ P q (XT P K false t') F L σ:=hx
    have ih':=fun F L σ=>ih m (listed.setIfInBounds i true) F L σ (by omega) hrest (hcl.set hr) (by simpa using hsz)
    rcases hok with hok|hok
    · refine ⟨fun h=>(by rw [h] at hr;cases hr),fun j hj=>?_⟩
      rw [hok] at hj
      simp only [B5] at hj
      subst hj
      exact ⟨_,hq,Mn (fun F L σ h=>ih' F L σ h) hx⟩
    · unfold Tz at hok
      rw [hq] at hok
      simp only [AQ,As] at hok
      obtain ⟨v,hy,hk⟩:=(fZ hok.1 _).1 hx
      refine Vf htab hq hok.1 m listed F L σ v hcl hsz (fun j qj hj hji hun=>?_) hr hy (ih' _ _ _ hk)
      have hmem:(qj,j)∈qs.zipIdx:=by
       rw [PY];exact hj
      have:=hok.2 (qj,j) hmem
      simp only [DZ,beq_iff_eq] at this
      rcases this with (h|h)|h
      · exact absurd h hji
      · rw [hun] at h;cases h
      · exact h
  · simp only [PT.depth] at hd
    simp only [Ko,AQ,As,Aa,DZ,beq_iff_eq] at hp
    obtain ⟨⟨hr,hall⟩,hrest⟩:=hp
    have hx:XQ P q (XT P K false t') F L σ:=hx
    rcases hall j hj with rfl|h
    · exact ⟨q,hq,Mn (fun F L σ h=>ih n _ F L σ (by omega) hrest (hcl.set hr) (by simpa using hsz) h) hx⟩
    · exact absurd h hjl
 | .alt i t r,qt,hp=>by
  simp only [Rf,AB,AE] at hp
  obtain ⟨q,hq,t',ht',r',hr',rfl⟩:=hp
  obtain ⟨ih,_⟩:=UE htab t t' ht'
  obtain ⟨_,ihr⟩:=UE htab r r' hr'
  refine ⟨fun n listed F L σ hd hp hcl hsz hx=>?_,fun n listed l F L σ hd hp hcl hsz hx j hj hjl=>?_⟩
  · simp only [PT.depth] at hd
    obtain ⟨m,rfl⟩:∃m,n=m+1:=⟨n - 1,by omega⟩
    simp only [Ko,AQ,Aa,Option.getD_none] at hp
    obtain ⟨⟨hr,hrest⟩,hp2⟩:=hp
    obtain ⟨hx1,hx2⟩:=hx
    refine ⟨fun h=>(by rw [h] at hr;cases hr),fun j hj=>?_⟩
    by_cases hji:j=i
    · subst hji
      exact ⟨q,hq,Mn (fun F L σ h=>ih m _ F L σ (by omega) hrest (hcl.set hr) (by simpa using hsz) h) hx1⟩
    · exact ihr m listed [i] F L σ (by omega) hp2 hcl hsz hx2 j hj (by simpa using hji)
  · simp only [PT.depth] at hd
    simp only [Ko,AQ,Aa,Nk] at hp
    obtain ⟨⟨hr,hrest⟩,hp2⟩:=hp
    obtain ⟨hx1,hx2⟩:=hx
    by_cases hji:j=i
    · subst hji
      exact ⟨q,hq,Mn (fun F L σ h=>ih n _ F L σ (by omega) hrest (hcl.set hr) (by simpa using hsz) h) hx1⟩
    · exact ihr n listed (i::l) F L σ (by omega) hp2 hcl hsz hx2 j hj (by simp [hji,hjl])
 | .lay i t,qt,hp=>⟨fun n listed F L σ _ hp=>by simp [Ko] at hp,fun n listed l F L σ _ hp=>by simp [Ko] at hp⟩
end Go.Ab
namespace Go.Ab
open Go.RowKit
variable {P:Program} {base N:Nat} {g g':Gh} {Pr:Nat→Prop} {σ σ':AF} {w0 w w':World} {lam:Nat→Option Nat} {F:Fm} {L:Lm} {a:Act} {K:CV} {d:Nat} {z:List AV}
theorem VR.Ar {x:AV} {v:Value} (h:VR g x v) (d:Nat):x.Ar d=false:=by cases h<;>rfl
theorem S1 {x:AV} (h:x.BZ=true) (d:Nat):x.Ar d=false:=by cases x<;>first|rfl|(cases h;done)
theorem YZ {x:AV} (h:x.BW=true) (d:Nat):x.Ar d=false:=by cases x<;>first|rfl|(cases h;done)
theorem AM.Ar {f:FuncId} {args:List AV} {Q:AV→AF→Prop} (h:AM P f args σ Q) (d:Nat):AM P f args σ (fun v σ'=>Q v σ'∧v.Ar d=false):=
 fun base g Pr w0 w vs hr hv=>(h base g Pr w0 w vs hr hv).mono fun _ _ ⟨v,av,g',σ',a,b,c,d',e,q⟩=>⟨v,av,g',σ',a,b,c,d',e,q,b.Ar d⟩
def Off (d:Nat) (F:Fm):Prop:=∀s,(F s).Ar d=false
theorem Off.Av (h:Off d F) {dst:Option Nat} {v:AV} (hv:v.Ar d=false):Off d (Av dst v F):=by
 intro s
 cases dst with
 |none=>exact h s
 |some k=>
  simp only [Ab.Av,Ab.put]
  split
  · exact hv
  · exact h s
theorem Off.Cw (h:Off d F) (k:Nat):Off d (Cw k F):=by
 intro s
 simp only [Ab.Cw]
 split
 · rfl
 · exact h s
theorem Wp (d:Nat) (F:Fm):Off d (Cw d F):=by
 intro s
 simp only [Cw]
 split
 · rfl
 · rename_i h;simpa using h
def cOk:X→Bool
 | .t _=>true
 | .c v=>v.BZ
theorem PE (h:Off d F) {x:X} (hx:cOk x=true):(xv F x).Ar d=false:=by
 cases x with
 |t n=>exact h n
 |c v=>exact S1 hx d
def PJ:O→Bool
 | .mv x| .fld x _| .ld x _| .ldl x _| .nck x=>cOk x
 | .pick _ x y=>cOk x&&cOk y
 | .st x _ _=>cOk x
 |_=>true
theorem Xe {k:Nat} (h:k≠d) (z:List AV) (L:Lm):BE d z L k=L k:=by simp [BE,h]
theorem kT {p:AV} (hp:p.Ar d=false) (n:Option Nat):ldA (BE d z L) σ p n=ldA L σ p n:=by
 cases p<;>try rfl
 · rename_i dx;cases dx<;>rfl
 rename_i k o
 have:k≠d:=by simpa [AV.Ar] using hp
 simp [ldA,Xe this]
theorem hY {p:AV} (hp:p.Ar d=false) (n:Option Nat):Xa (BE d z L) p n=Xa L p n:=by
 cases p<;>try rfl
 rename_i k o
 have:k≠d:=by simpa [AV.Ar] using hp
 simp [Xa,Xe this]
theorem nR (h:Off d F) {o:O} (hc:PJ o=true):pv F (BE d z L) σ o=pv F L σ o:=by
 cases o<;>try rfl
 case ld x n=>exact kT (PE h hc) n
 case ldl x n=>exact hY (PE h hc) n
theorem PQ {cs:List AV} {o:Nat} {n:Option Nat} {v:AV} (h:rdC cs o n=some v):v.Ar d=false:=by
 cases n with
 |none=>
  simp only [rdC,AB] at h
  obtain ⟨v0,_,h⟩:=h
  obtain ⟨rfl,hc⟩:=Q2 h
  exact YZ hc d
 |some n=>
  simp only [rdC] at h
  split at h
  · cases h;rfl
  · cases h
theorem hG {op:BinOp} {k:IntKind} {x y:Int} {v:AV} (h:dN op k x y=some v):v.Ar d=false:=by
 unfold dN at h
 split at h<;>first|(cases h;rfl)|(split at h<;>first|(cases h;done)|(cases h;rfl))|(cases h;done)
theorem jM {op:BinOp} {x y:List UInt8} {v:AV} (h:bF op x y=some v):v.Ar d=false:=by
 unfold bF at h
 split at h<;>first|(cases h;rfl)|(split at h<;>first|(cases h;done)|(cases h;rfl))|(cases h;done)
theorem bY {b:Bool} {x y v:AV} (h:mmA b x y=some v):v.Ar d=false:=by
 unfold mmA at h
 split at h
 · split at h
   · cases h;rfl
   · cases h
 · cases h
theorem X6 {rows:List (List DV)} {m:Int} {n:Nat} {v:AV} (h:ixR rows m n=some v):v.Ar d=false:=by
 unfold ixR at h
 split at h
 · simp only [AB] at h
   obtain ⟨r,_,h⟩:=h
   split at h
   · cases h;rfl
   · cases h
 · cases h
theorem kO {k:EK} {args:List AV} {v:AV} (h:exP k args=some v):v.Ar d=false:=by
 obtain ⟨_,h⟩:=Tv h
 unfold QD at h
 split at h
 · cases h;rfl
 · simp only [AE] at h;obtain ⟨_,_,rfl⟩:=h;rfl
 · simp only [AE] at h;obtain ⟨_,_,rfl⟩:=h;rfl
 · cases h
theorem lH (h:Off d F) {o:O} (hc:PJ o=true) {v:AV} (hv:pv F L σ o=some v):v.Ar d=false:=by
 cases o<;>simp only [pv] at hv<;>try (cases hv;done)
 case mv x=>cases hv;exact PE h hc
 case ex k xs=>exact kO hv
 case pick c x y=>
  simp only [PJ,AQ] at hc
  unfold Y7 at hv
  split at hv
  · cases hv;split
    · exact PE h hc.1
    · exact PE h hc.2
  · cases hv
 case fld x off=>
  have hx:=PE h hc
  generalize xv F x=p at hv hx
  cases p<;>simp only [Zg] at hv<;>try (cases hv;done)
  · rename_i dx;cases dx<;>simp only at hv<;>first|(cases hv;done)|(cases hv;rfl)
  · cases hv;exact hx
  · cases hv;rfl
  · cases hv;rfl
 case ld x n=>
  generalize xv F x=p at hv
  cases p<;>simp only [ldA] at hv<;>try (cases hv;done)
  · rename_i dx;cases dx<;>simp only at hv<;>first|(cases hv;done)|exact PQ hv
  · simp only [AB] at hv;obtain ⟨_,_,hv⟩:=hv;exact PQ hv
  · simp only [AB] at hv;obtain ⟨_,_,hv⟩:=hv;exact PQ hv
  · exact PQ hv
 case ldl x n=>
  generalize xv F x=p at hv
  cases p<;>simp only [Xa] at hv<;>try (cases hv;done)
  simp only [AB] at hv;obtain ⟨_,_,hv⟩:=hv;exact PQ hv
 case ix x i n=>
  unfold ixA at hv
  split at hv
  · split at hv
    · cases hv;rfl
    · cases hv
  · split at hv
    · cases hv;rfl
    · cases hv
  · exact X6 hv
  · exact X6 hv
  · exact X6 hv
  · cases hv
 case Lv x i=>
  unfold V5 at hv
  split at hv
  · split at hv
    · simp only [AE] at hv;obtain ⟨_,_,rfl⟩:=hv;rfl
    · cases hv
  · cases hv
 case len x=>
  unfold M6 at hv
  split at hv<;>first|(cases hv;rfl)|(cases hv;done)
 case Gy x=>
  unfold Wy at hv
  split at hv<;>first|(cases hv;rfl)|(cases hv;done)
 case bin op x y=>
  unfold cP at hv
  split at hv
  · split at hv
    · exact hG hv
    · cases hv
  · exact jM hv
  · cases hv
 case cR op x y=>
  unfold W9 at hv
  split at hv<;>first|(cases hv;rfl)|(cases hv;done)
 case un op x=>
  unfold unA at hv
  split at hv<;>first|(cases hv;rfl)|(cases hv;done)
 case conv k x=>
  unfold Wf at hv
  split at hv<;>first|(cases hv;rfl)|(cases hv;done)
 case bld z ps=>simp only [AE] at hv;obtain ⟨_,_,rfl⟩:=hv;rfl
 case bsl s n z ps=>simp only [AE] at hv;obtain ⟨_,_,rfl⟩:=hv;rfl
 case mkf f x y=>
  split at hv
  · cases hv;rfl
  · cases hv
 case ext x i=>
  unfold dB at hv
  split at hv
  · simp only [AB] at hv
    obtain ⟨v0,_,hv⟩:=hv
    obtain ⟨rfl,hn⟩:=Uz hv
    exact S1 hn d
  · cases hv
 case nck x=>
  have hx:=PE h hc
  generalize xv F x=p at hv hx
  cases p<;>simp only [iJ] at hv<;>try (cases hv;done)
  · rename_i dx;cases dx<;>simp only at hv<;>first|(cases hv;done)|(cases hv;rfl)
  · cases hv;exact hx
  · cases hv;rfl
  · cases hv;rfl
 case mm b x y=>exact bY hv
 case fd x off n=>
  generalize xv F x=p at hv
  cases p<;>simp only [fdA] at hv<;>try (cases hv;done)
  exact PQ hv
 case ssl x lo hi=>
  unfold Ov at hv
  split at hv
  · simp only [AE] at hv;obtain ⟨_,_,rfl⟩:=hv;rfl
  · cases hv
 case sls x lo hi mx n=>
  unfold fF at hv
  split at hv
  · split at hv
    · cases hv;rfl
    · cases hv
  · simp only [AB] at hv
    obtain ⟨_,_,hv⟩:=hv
    split at hv
    · cases hv;rfl
    · cases hv
  · simp only [AB] at hv
    obtain ⟨_,_,hv⟩:=hv
    split at hv
    · cases hv;rfl
    · cases hv
  simp only [AB] at hv
  obtain ⟨rows,_,hv⟩:=hv
  unfold bA at hv
  split at hv
  · simp only [AB] at hv
    obtain ⟨b,_,hv⟩:=hv
    split at hv
    · cases hv;rfl
    · split at hv
      · cases hv;rfl
      · cases hv
    · cases hv
  · cases hv
 case Ya ne x=>
  unfold Ws at hv
  split at hv<;>first|(cases hv;rfl)|(cases hv;done)
 case ZA ne n x y=>
  unfold Wz at hv
  split at hv
  · split at hv
    · simp only [AE] at hv;obtain ⟨_,_,rfl⟩:=hv;rfl
    · cases hv
  · cases hv
 case mm3 b x y z=>
  simp only [AB] at hv
  obtain ⟨_,_,hv⟩:=hv
  exact bY hv
 case cT x=>simp only [AE] at hv;obtain ⟨_,_,rfl⟩:=hv;rfl
theorem Dc {dst:Option Nat} (h:dst≠some d) (v x:AV) (F:Fm):Av dst v (put d x F)=put d x (Av dst v F):=
 S7 (d:=dst) (e:=some d) (fun k hk he=>h (by rw [hk,he])) v x F
theorem Og {k:Nat} (h:d≠k) (F:Fm):Cw k (put d (.lp d 0) F)=put d (.lp d 0) (Cw k F):=by
 funext s
 simp only [Cw,put]
 by_cases e:s=d
 · subst e;simp [AV.Ar,h]
 · simp [e]
theorem S6 {k:Nat} (h:k≠d) (x y:List AV) (L:Lm):BE k x (BE d y L)=BE d y (BE k x L):=by
 funext s
 simp only [BE]
 by_cases e:s=k
 · subst e;simp [h]
 · simp [e]
theorem mP {o:O} {dst:Option Nat} (hN:Off d F) (hc:PJ o=true) (hl:∀s∈Hr o,s≠d) (hd:dst≠some d) (hx:XO P dst K (put d (.lp d 0) F) (BE d z L) σ o):
 XO P dst (fun F' L' σ'=>Off d F'∧K (put d (.lp d 0) F') (BE d z L') σ') F L σ o:=by
 have hF:∀s∈Hr o,put d (.lp d 0) F s=F s:=fun s hs=>by simp [put,hl s hs]
 by_cases hV:isV o=true
 · rw [cI hV] at hx ⊢
   obtain ⟨u,h1,h2⟩:=hx
   have h1:=UK hF h1
   have h3:Yv P F L σ u o∧u.Ar d=false:=by
    cases o<;>try (cases hV;done)
    case TI f args=>exact ⟨h1,S1 h1.2.1 d⟩
    all_goals
     simp only [Yv] at h1 ⊢
     rw [nR hN hc] at h1
     exact ⟨h1,lH hN hc h1⟩
   refine ⟨u,h3.1,hN.Av h3.2,?_⟩
   rw [← Dc hd];exact h2
 · cases o<;>simp only [isV,not_true_eq_false] at hV<;>simp only [Hr,A3] at hF
   case box x sh=>
    simp only [XO,PZ] at hx ⊢
    rw [← BL hF]
    refine ⟨hx.1,?_⟩
    have hx:=hx.2
    cases dst with
    |none=>exact hx.elim
    |some e=>
     have hne:d≠e:=fun h=>hd (by rw [h])
     cases sh with
     |true=>exact fun i hi=>⟨hN.Av (dst:=some e) (v:= .gp i 0) rfl,by have:=hx i hi;rw [show put e (.gp i 0) (put d (.lp d 0) F)=put d (.lp d 0) (put e (.gp i 0) F) from Dc (dst:=some e) hd _ _ _] at this;exact this⟩
     |false=>
      refine ⟨(hN.Cw e).Av (dst:=some e) (v:= .lp e 0) (by simp [AV.Ar];exact Bs hne),?_⟩
      have hx:K (put e (.lp e 0) (Cw e (put d (.lp d 0) F))) (BE e (xv (put d (.lp d 0) F) x).cells (BE d z L)) σ:=hx
      rw [Og hne,S6 (Bs hne),show put e (.lp e 0) (put d (.lp d 0) (Cw e F))=put d (.lp d 0) (put e (.lp e 0) (Cw e F)) from Dc (dst:=some e) hd _ _ _] at hx
      exact hx
   case al y sh=>
    simp only [XO,PZ] at hx ⊢
    refine ⟨hx.1,?_⟩
    have hx:=hx.2
    cases dst with
    |none=>exact hx.elim
    |some e=>
     have hne:d≠e:=fun h=>hd (by rw [h])
     cases sh with
     |true=>exact fun i hi=>⟨hN.Av (dst:=some e) (v:= .gp i 0) rfl,by have:=hx i hi;rw [show put e (.gp i 0) (put d (.lp d 0) F)=put d (.lp d 0) (put e (.gp i 0) F) from Dc (dst:=some e) hd _ _ _] at this;exact this⟩
     |false=>
      refine ⟨(hN.Cw e).Av (dst:=some e) (v:= .lp e 0) (by simp [AV.Ar];exact Bs hne),?_⟩
      have hx:K (put e (.lp e 0) (Cw e (put d (.lp d 0) F))) (BE e y (BE d z L)) σ:=hx
      rw [Og hne,S6 (Bs hne),show put e (.lp e 0) (put d (.lp d 0) (Cw e F))=put d (.lp d 0) (put e (.lp e 0) (Cw e F)) from Dc (dst:=some e) hd _ _ _] at hx
      exact hx
   case st x y n=>
    simp only [XO,XSt] at hx ⊢
    rw [BL (F:=put d (.lp d 0) F) (F':=F) (fun s hs=>hF s (.inl hs)),BL (F:=put d (.lp d 0) F) (F':=F) (fun s hs=>hF s (.inr hs))] at hx
    obtain ⟨h1,h2,h3,h4⟩:=hx
    refine ⟨h1,h2,h3,?_⟩
    have hp:=PE hN hc
    generalize xv F x=p at hp h4
    cases p<;>simp only [stA] at h4 ⊢<;>try (exact h4.elim)
    · rename_i k o2
      have hk:k≠d:=by simpa [AV.Ar] using hp
      rw [Xe hk] at h4
      cases hL:L k with
      |none=>rw [hL] at h4;exact h4.elim
      |some cs=>
       rw [hL] at h4
       simp only [Gm] at h4 ⊢
       by_cases hle:o2+(xv F y).cells.length≤cs.length
       · rw [if_pos hle] at h4 ⊢
         refine ⟨hN,?_⟩
         have h4:K (put d (.lp d 0) F) (BE k (wr cs o2 (xv F y).cells) (BE d z L)) σ:=h4
         rw [S6 hk] at h4;exact h4
       · rw [if_neg hle] at h4;exact h4.elim
    · rename_i i o2
      cases hb:σ.blk i with
      |none=>rw [hb] at h4;exact h4.elim
      |some cs=>
       rw [hb] at h4
       simp only [Gm] at h4 ⊢
       by_cases hle:o2+(xv F y).cells.length≤cs.length
       · rw [if_pos hle] at h4 ⊢;exact ⟨hN,h4⟩
       · rw [if_neg hle] at h4;exact h4.elim
   case msl e s b y l c=>
    obtain ⟨k,k',n,h1,h2,h3,h4,h5,h6⟩:=hx
    refine ⟨k,k',n,by rw [← BL (fun s hs=>hF s (.inl hs))];exact h1,by rw [← BL (fun s hs=>hF s (.inr hs))];exact h2,h3,h4,h5,fun i hi=>⟨hN.Av rfl,?_⟩⟩
    rw [← Dc hd];exact h6 i hi
   case app e s b x y=>
    rcases hx with ⟨rows,σ1,srows,h1,h2,h3,h4,h5,h6⟩|⟨rows,srows,h1,h2,h3,h4,h5,h6,h7⟩
    · refine .inl ⟨rows,σ1,srows,by rw [← BL (fun s hs=>hF s (.inl hs))];exact h1,by rw [← BL (fun s hs=>hF s (.inr hs))];exact h2,h3,h4,h5,fun t ht=>⟨hN.Av rfl,?_⟩⟩
      rw [← Dc hd];exact h6 t ht
    · refine .inr ⟨rows,srows,by rw [← BL (fun s hs=>hF s (.inl hs))];exact h1,by rw [← BL (fun s hs=>hF s (.inr hs))];exact h2,h3,h4,h5,h6,⟨hN.Av rfl,?_⟩⟩
      rw [← Dc hd];exact h7
   case UO e s b x y=>
    obtain ⟨n,cs,σ1,srows,h1,h2,h3,h4,h5,h6,h7⟩:=hx
    refine ⟨n,cs,σ1,srows,by rw [← BL (fun s hs=>hF s (.inl hs))];exact h1,by rw [← BL (fun s hs=>hF s (.inr hs))];exact h2,h3,fun e=>⟨hN.Av ?_,?_⟩,h5,h6,fun e t ht=>⟨hN.Av rfl,?_⟩⟩
    · unfold KW at h1
      rw [← BL (fun s hs=>hF s (.inl hs))]
      generalize xv _ x=xx at h1
      cases xx<;>first|rfl|(cases h1;done)
    · rw [← Dc hd,← BL (fun s hs=>hF s (.inl hs))];exact h4 e
    · rw [← Dc hd];exact h7 e t ht
   case trn x y=>
    obtain ⟨k,s,e,cs,σ1,h1,h2⟩:=hx
    refine ⟨k,s,e,cs,σ1,by rw [← BL (fun s hs=>hF s (.inl hs)),← BL (fun s hs=>hF s (.inr hs))];exact h1,fun t ht=>⟨hN.Av rfl,?_⟩⟩
    rw [← Dc hd];exact h2 t ht
   case QX e s l y ps=>
    obtain ⟨cs,h1,h2⟩:=hx
    refine ⟨cs,by rw [← LZ _ _ hF];exact h1,h2.imp (fun h2 t ht=>⟨hN.Av rfl,?_⟩) fun ⟨ds,h3,h4,h5⟩=>⟨ds,h3,h4,fun t ht=>⟨hN.Av rfl,?_⟩⟩⟩
    · rw [← Dc hd];exact h2 t ht
    · rw [← Dc hd];exact h5 t ht
   case call f args=>
    obtain ⟨h1,R,h2,h3⟩:=hx
    rw [Fl hF] at h1 h2
    refine ⟨h1,_,h2.Ar d,fun u σ' hv=>⟨hN.Av hv.2,?_⟩⟩
    rw [← Dc hd];exact h3 u σ' hv.1
   case FV x args=>
    obtain ⟨f,first,caps,h0,hb,h1,R,h2,h3⟩:=hx
    rw [Fl (fun s hs=>hF s (.inr hs))] at h1 h2
    refine ⟨f,first,caps,by rw [← BL (fun s hs=>hF s (.inl hs))];exact h0,hb,h1,_,h2.Ar d,fun u σ' hv=>⟨hN.Av hv.2,?_⟩⟩
    rw [← Dc hd];exact h3 u σ' hv.1
   case ex k xs=>
    simp only [XO,XEx,hV,AZ,if_false] at hx ⊢
    rw [Fl hF] at hx
    refine ⟨hx.1,hx.2.mono fun u σ' hu hv=>⟨hN.Av (hu d),?_⟩⟩
    rw [← Dc hd];exact hv
theorem mR {q:Q} (hN:Off d F) (hc:PJ q.o=true) (hl:∀s∈q.looks,s≠d) (hd:q.dst≠some d) (hx:XQ P q K (put d (.lp d 0) F) (BE d z L) σ):
 XQ P q (fun F' L' σ'=>Off d F'∧K (put d (.lp d 0) F') (BE d z L') σ') F L σ:=by
 have h1:∀s∈Hr q.o,s≠d:=fun s hs=>hl s (by simp [Q.looks,hs])
 unfold XQ at hx ⊢
 rw [Ui (F:=put d (.lp d 0) F) (F':=F) (fun s hs=>by simp [put,hl s hs])] at hx
 cases hc2:gd F q.grd with
 |none=>rw [hc2] at hx;exact hx.elim
 |some b=>
  rw [hc2] at hx
  cases b
  · have hx:K (Av q.dst (.tup []) (put d (.lp d 0) F)) (BE d z L) σ:=hx
    rw [Dc hd] at hx
    exact ⟨hN.Av rfl,hx⟩
  · exact mP hN hc h1 hd hx
theorem eY (h:Off d F):Cw d F=F:=by
 funext s
 simp [Cw,h s]
def mI (tab:Array Nat) (qs:List Q) (i d:Nat):Bool:=
 qs.zipIdx.all fun (qj,j)=>j==i||(tab.getD j 0).testBit i||(PJ qj.o&& !qj.looks.contains d&&qj.dst != some d)
theorem lR {ops:Array Oper} {tab:Array Nat} (htab:∀j i,(tab.getD j 0).testBit i=true→Anc ops j i) {qs:List Q} {i:Nat} (hi:qs[i]?=some ⟨some d,.al z false,none⟩) (hz:Af z=true) (hlay:mI tab qs i d=true):
 ∀(fuel:Nat) (listed:Array Bool) (F:Fm) (L:Lm) (σ:AF),Hc ops listed→listed.size=ops.size→i∈Region.ready .any ops listed→Off d F→
  Rv P ops qs K fuel (listed.setIfInBounds i true) (put d (.lp d 0) F) (BE d z L) σ→Rv P ops qs K (fuel+1) listed F L σ:=by
 have hself:∀(K2:CV) (F:Fm) (L:Lm) (σ:AF),Off d F→K2 (put d (.lp d 0) F) (BE d z L) σ→XQ P ⟨some d,.al z false,none⟩ K2 F L σ:=fun K2 F L σ hN h=>by
  show PZ z false (some d) K2 F L σ
  refine ⟨hz,?_⟩
  show K2 (put d (.lp d 0) (Cw d F)) (BE d z L) σ
  rw [eY hN];exact h
 intro fuel
 induction fuel with
 |zero=>
  intro listed F L σ hcl hsz hr hN H
  refine ⟨fun h=>(by rw [h] at hr;cases hr),fun j hj=>?_⟩
  by_cases hji:i=j
  · subst hji;exact ⟨_,hi,hself _ _ _ _ hN H⟩
  · have:=M7 hj hji
    rw [H.1] at this;cases this
 |succ fuel ih=>
  intro listed F L σ hcl hsz hr hN H
  refine ⟨fun h=>(by rw [h] at hr;cases hr),fun j hj=>?_⟩
  by_cases hji:i=j
  · subst hji;exact ⟨_,hi,hself _ _ _ _ hN H⟩
  · obtain ⟨qj,hqj,hxj⟩:=H.2 j (M7 hj hji)
    obtain ⟨hjlt,hjun,oj,hoj,hjall⟩:=Ir.1 hj
    have hiun:=(Ir.1 hr).2.1
    have hilt:=(Ir.1 hr).1
    have hmem:(qj,j)∈qs.zipIdx:=by rw [PY];exact hqj
    have hb:=As.1 hlay (qj,j) hmem
    simp only [DZ,beq_iff_eq,AQ,Cb,bne_iff_ne] at hb
    rcases hb with (hb|hanc)|⟨⟨hc,hlk⟩,hdst⟩
    · exact absurd hb.symm hji
    · have h1:=UN hcl (htab j i hanc) (fun o ho=>by rw [hoj] at ho;cases ho;exact hjall)
      rw [Ca,Jg (by omega)] at h1 hiun
      simp at h1 hiun
      rw [h1] at hiun;cases hiun
    · refine ⟨qj,hqj,?_⟩
      have hlk':∀s∈qj.looks,s≠d:=fun s hs he=>by subst he;rw [← Bool.not_eq_true,Aa] at hlk;exact hlk hs
      have hcomm:(listed.setIfInBounds i true).setIfInBounds j true=(listed.setIfInBounds j true).setIfInBounds i true:=Array.setIfInBounds_comm _ _ hji
      refine Mn (fun F' L' σ' h=>?_) (mR hN hc hlk' hdst hxj)
      refine ih _ F' L' σ' (hcl.set hj) (by simpa using hsz) (M7 hr (Bs hji)) h.1 ?_
      rw [← hcomm];exact h.2
def Lt:List Nat→Fm→Fm
 |[],F=>F
 |d::ds,F=>Lt ds (Cw d F)
theorem TJ:∀(ds:List Nat) (F:Fm) (s:Nat),Lt ds F s=F s∨Lt ds F s= .undef
 |[],F,s=>.inl rfl
 |d::ds,F,s=>by
  rcases TJ ds (Cw d F) s with h|h
  · rw [Lt,h];simp only [Cw];split<;>simp
  · exact .inr h
theorem VF:∀(ds:List Nat) (F:Fm) (d:Nat),(d∈ds∨Off d F)→Off d (Lt ds F)
 |[],F,d,h=>by
  rcases h with h|h
  · cases h
  · exact h
 |e::ds,F,d,h=>by
  refine VF ds (Cw e F) d ?_
  rcases h with h|h
  · cases h with
    |head=>exact .inr (Wp _ F)
    |tail _ h=>exact .inl h
  · exact .inr (h.Cw e)
theorem VG:∀(ds:List Nat) (F:Fm) (d:Nat),d ∉ ds→Lt ds (put d (.lp d 0) F)=put d (.lp d 0) (Lt ds F)
 |[],F,d,_=>rfl
 |e::ds,F,d,h=>by
  simp only [Bf,not_or] at h
  simp only [Lt]
  rw [Og h.1,VG ds _ d h.2]
def Mg:PT→List Nat×PT
 | .lay i t=>(i::(Mg t).1,(Mg t).2)
 |t=>([],t)
def hX (qs:List Q):List Nat→Option (List (Nat×Nat×List AV))
 |[]=>some []
 |i::l=>match qs[i]? with
  |some ⟨some d,.al z false,none⟩=>if Af z then (hX qs l).map ((i,d,z)::·) else none
  |_=>none
def SX (ops:Array Oper) (tab:Array Nat) (qs:List Q):List (Nat×Nat×List AV)→Array Bool→Bool
 |[],_=>true
 |(i,d,_)::r,listed=>(Region.ready .any ops listed).contains i&&mI tab qs i d&& !(r.map (·.2.1)).contains d&&SX ops tab qs r (listed.setIfInBounds i true)
def V1:List Nat→Array Bool→Array Bool
 |[],a=>a
 |i::l,a=>V1 l (a.setIfInBounds i true)
def nJ:List (Nat×Nat×List AV)→Fm→Fm
 |[],F=>F
 |(_,d,_)::r,F=>nJ r (put d (.lp d 0) (Cw d F))
def nK:List (Nat×Nat×List AV)→Lm→Lm
 |[],L=>L
 |(_,d,z)::r,L=>nK r (BE d z L)
theorem XF {ops:Array Oper} {tab:Array Nat} (htab:∀j i,(tab.getD j 0).testBit i=true→Anc ops j i) {qs:List Q} {n:Nat}:∀(ls:List (Nat×Nat×List AV)) (listed:Array Bool) (F:Fm) (L:Lm) (σ:AF),
 (∀x∈ls,qs[x.1]?=some ⟨some x.2.1,.al x.2.2 false,none⟩∧Af x.2.2=true)→SX ops tab qs ls listed=true→Hc ops listed→listed.size=ops.size→
 Rv P ops qs K n (V1 (ls.map (·.1)) listed) (nJ ls F) (nK ls L) σ→Rv P ops qs K (n+ls.length) listed (Lt (ls.map (·.2.1)) F) L σ
 |[],listed,F,L,σ,_,_,_,_,h=>h
 |(i,d,z)::r,listed,F,L,σ,hq,hok,hcl,hsz,h=>by
  simp only [SX,AQ,Aa,Cb] at hok
  obtain ⟨⟨⟨hr,hlay⟩,hnd⟩,hrest⟩:=hok
  have hnd':d ∉ r.map (·.2.1):=fun hm=>by rw [← Bool.not_eq_true,Aa] at hnd;exact hnd hm
  obtain ⟨hi,hz⟩:=hq (i,d,z) (by simp)
  have ih:=XF htab (n:=n) r (listed.setIfInBounds i true) (put d (.lp d 0) (Cw d F)) (BE d z L) σ (fun x hx=>hq x (by simp [hx])) hrest (hcl.set hr) (by simpa using hsz) h
  rw [VG _ _ _ hnd'] at ih
  exact lR htab hi hz hlay (n+r.length) listed _ L σ hcl hsz hr (VF (r.map (·.2.1)) (Cw d F) d (.inr (Wp d F))) ih
theorem QO {ops:Array Oper} {tab:Array Nat} {qs:List Q}:∀(ls:List (Nat×Nat×List AV)) (listed:Array Bool),SX ops tab qs ls listed=true→Hc ops listed→listed.size=ops.size→Hc ops (V1 (ls.map (·.1)) listed)∧(V1 (ls.map (·.1)) listed).size=ops.size
 |[],listed,_,hc,hs=>⟨hc,hs⟩
 |(i,d,z)::r,listed,hok,hcl,hsz=>by
  simp only [SX,AQ,Aa] at hok
  exact QO r _ hok.2 (hcl.set hok.1.1.1) (by simpa using hsz)
def cE (ls:List (Nat×Nat×List AV)) (t:QT):QT:=ls.foldr (fun x acc=>.one ⟨some x.2.1,.al x.2.2 false,none⟩ acc) t
theorem Y8:∀(ls:List (Nat×Nat×List AV)) (t:QT) (F:Fm) (L:Lm),XT P K false (cE ls t) F L σ→XT P K false t (nJ ls F) (nK ls L) σ
 |[],t,F,L,h=>h
 |(i,d,z)::r,t,F,L,h=>by
  have h:XQ P ⟨some d,.al z false,none⟩ (XT P K false (cE r t)) F L σ:=h
  have h:PZ z false (some d) (XT P K false (cE r t)) F L σ:=h
  exact Y8 r t _ _ h.2
def U8 (P:Program) (N:Nat) (esc:List Nat) (pf:List FuncId) (pt:PT) (ops:Array Oper):Option QT:=do
 let qs ← Kc P N esc ops (Ae ops.size)
 let qs:=qs.map (toP pf)
 let tab:=Rx ops.toList #[]
 let ls ← hX qs (Mg pt).1
 let l0:=EL ops.size false
 if SX ops tab qs ls l0&&Ko ops tab qs (Mg pt).2 (V1 (ls.map (·.1)) l0) none&&decide ((Mg pt).2.depth+ls.length≤ops.size) then (Rf qs (Mg pt).2).map (cE ls) else none
theorem Wn {qs:List Q}:∀(l:List Nat) (ls:List (Nat×Nat×List AV)),hX qs l=some ls→∀x∈ls,qs[x.1]?=some ⟨some x.2.1,.al x.2.2 false,none⟩∧Af x.2.2=true
 |[],ls,h,x,hx=>by simp only [hX,AK] at h;subst h;cases hx
 |i::l,ls,h,x,hx=>by
  simp only [hX] at h
  split at h
  · rename_i d z hq
    split at h
    · rename_i hz
      simp only [AE] at h
      obtain ⟨r,hr,rfl⟩:=h
      cases hx with
      |head=>exact ⟨hq,hz⟩
      |tail _ hx=>exact Wn l r hr x hx
    · cases h
  · cases h
theorem W6 {ops:Array Oper} {qs:List Q}:∀(n m:Nat) (listed:Array Bool) (F:Fm) (L:Lm) (σ:AF),n≤m→Rv P ops qs K n listed F L σ→Rv P ops qs K m listed F L σ
 |0,0,listed,F,L,σ,_,h=>h
 |0,m+1,listed,F,L,σ,_,h=>⟨fun _=>h.2,fun i hi=>by rw [h.1] at hi;cases hi⟩
 |n+1,0,listed,F,L,σ,hle,h=>by omega
 |n+1,m+1,listed,F,L,σ,hle,h=>⟨h.1,fun i hi=>by
  obtain ⟨q,hq,hx⟩:=h.2 i hi
  exact ⟨q,hq,Mn (fun F L σ h=>W6 n m _ F L σ (by omega) h) hx⟩⟩
theorem Bc.pH (h:Bc base g lam Pr N F L σ a w0 w) {F':Fm} (hF:∀s,F' s=F s∨F' s= .undef):Bc base g lam Pr N F' L σ a w0 w:=by
 refine ⟨fun s=>?_,h.sz,h.df,h.loc,h.inj,h.npr,h.rel⟩
 rcases hF s with e|e
 · rw [e];exact h.tm s
 · rw [e];exact VR.undef
theorem Sz {ops:Array Oper} {esc:List Nat} {pf:List FuncId} {pt:PT} {qt:QT} (hm:P.follows .mixedOrders=true) (hc:U8 P N esc pf pt ops=some qt) (hx:XT P K false qt F L σ)
 (h:Bc base g lam Pr N F L σ a w0 w) {id:Nat}:(Code.region id ops true).wp P (fun e a' w'=>e= .normal∧E6 base Pr N w0 g w K a' w') a w:=by
 simp only [U8,AN,AB] at hc
 obtain ⟨qs0,hq0,ls,hls,hc⟩:=hc
 split at hc
 case isFalse=>cases hc
 rename_i hp
 simp only [AQ,decide_eq_true_eq] at hp
 simp only [AE] at hc
 obtain ⟨t,ht,rfl⟩:=hc
 have hcl:Hc ops (EL ops.size false):=by
  intro j o ho hj
  have:(EL ops.size false).getD j false=false:=by
   simp only [Ca,Array.getElem?_replicate];split<;>rfl
  rw [this] at hj;cases hj
 obtain ⟨hcl2,hsz2⟩:=QO ls _ hp.1.1 hcl (by simp)
 have hx2:=Y8 ls t F L hx
 have hany1:=(UE (P:=P) (K:=K) (fun j i=>Sk) _ t ht).1 _ _ _ _ σ (A0 _) hp.1.2 hcl2 hsz2 hx2
 have hany2:=XF (P:=P) (K:=K) (tab:=Rx ops.toList #[]) (fun j i=>Sk) ls _ F L σ (Wn _ ls hls) hp.1.1 hcl (by simp) hany1
 have hany:=W6 _ ops.size _ _ _ _ hp.2 hany2
 refine wp_region_any hm ?_
 have hF:=h.pH (TJ (ls.map (·.2.1)) F)
 have hdrew:Bc base g lam Pr N (Lt (ls.map (·.2.1)) F) L σ a w0 { w with drawn:=w.drawn+1}:=
  hF.step (w':=w.drew) (Gh.le_refl g) (fun k b hb=>rfl) (hF.rel.grow (w':=w.drew) (A0 _) (fun _ _ _=>rfl) ((Below.refl base w).drew) (fun b hb=>⟨(hF.rel.pr b hb).1,.inl hb⟩))
 exact Qs hq0 K _ _ base g lam Pr _ L σ a w0 _ hany hdrew (fun a' w' hA=>⟨rfl,E6.trans (Gh.le_refl g) ⟨A0 _,fun _ _=>rfl⟩ hA⟩)
def lin:QT→Option (List Q)
 | .done=>some []
 | .one q t=>(lin t).map (q::·)
 | .alt _ _ _=>none
theorem iB:∀(t:QT) (ops:List Q) (F:Fm) (L:Lm) (σ:AF),lin t=some ops→BV P K ops F L σ→XT P K false t F L σ
 | .done,ops,F,L,σ,h,hx=>by simp only [lin,AK] at h;subst h;exact hx
 | .one q t,ops,F,L,σ,h,hx=>by
  simp only [lin,AE] at h
  obtain ⟨l,hl,rfl⟩:=h
  exact Mn (fun F L σ h=>iB t l F L σ hl h) hx
 | .alt _ _ _,ops,F,L,σ,h,_=>by simp [lin] at h
end Go.Ab
