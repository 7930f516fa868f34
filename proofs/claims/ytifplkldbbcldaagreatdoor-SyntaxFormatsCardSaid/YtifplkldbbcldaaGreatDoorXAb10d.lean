/- Regions that draw their order, continued: where operations do not commute, every order is looked at. Regions that draw their order, continued: new local variables may be laid first. Conditions: none. -/
import Derived.Test.YtifplkldbbcldaaGreatDoorXAb10b
set_option linter.unusedSimpArgs false
set_option linter.unusedVariables false
set_option maxRecDepth 4000
set_option maxHeartbeats 8000000
open Bool renaming false_eq_true→AU,and_eq_true→AM,or_eq_true→BX,not_eq_true'→CV,not_eq_true→RH
open Option.some renaming injEq→AR
open List renaming all_eq_true→A4,contains_iff_mem→Bb,mem_singleton→Dy,mem_zipIdx_iff_getElem?→T4,mem_append→BY,mem_cons→CW,range→Ix
open Option renaming bind_eq_some_iff→AF,map_eq_some_iff→AL,getD_some→RK,bind_some→B2,bind_eq_bind→AT
open Array renaming getD_eq_getD_getElem?→Cl,getElem?_eq_getElem→MI,replicate→En
open Nat renaming le_refl→A8
namespace Go.Ab
open Go.RowKit
variable {P:Program} {base N:Nat} {g g':Gh} {Pr:Nat→Prop} {σ σ':AN} {w0 w w':World} {lam:Nat→Option Nat} {F:Fm} {L:Lm} {a:Act} {K:CY}
theorem j4 {o:O} {dst:Option Nat} {K':CY} (hk:∀F L σ,K F L σ→K' F L σ) (hx:XO P dst K F L σ o):XO P dst K' F L σ o:=by
 by_cases hV:isV o=true
 · rw [o9 hV] at hx ⊢
   obtain ⟨v,h1,h2⟩:=hx
   exact ⟨v,h1,hk _ _ _ h2⟩
 · cases o<;>simp only [isV,not_true_eq_false] at hV
   case box x sh=>
    simp only [XO,T5] at hx ⊢
    refine ⟨hx.1,?_⟩
    have hx:=hx.2
    cases dst with
    |none=>exact hx.elim
    |some d=>cases sh with
     |true=>exact fun i hi=>hk _ _ _ (hx i hi)
     |false=>exact hk _ _ _ hx
   case al z sh=>
    simp only [XO,T5] at hx ⊢
    refine ⟨hx.1,?_⟩
    have hx:=hx.2
    cases dst with
    |none=>exact hx.elim
    |some d=>cases sh with
     |true=>exact fun i hi=>hk _ _ _ (hx i hi)
     |false=>exact hk _ _ _ hx
   case st x v n=>
    simp only [XO,XSt] at hx ⊢
    obtain ⟨h1,h2,h3,h4⟩:=hx
    refine ⟨h1,h2,h3,?_⟩
    split at h4
    · exact hk _ _ _ h4
    · exact h4.elim
   case msl e s b z l c=>
    obtain ⟨k,k',n,h1,h2,h3,h4,h5,h6⟩:=hx
    exact ⟨k,k',n,h1,h2,h3,h4,h5,fun i hi=>hk _ _ _ (h6 i hi)⟩
   case YF e s b x y=>
    obtain ⟨n,cs,σ1,srows,h1,h2,h3,h4,h5,h6,h7⟩:=hx
    exact ⟨n,cs,σ1,srows,h1,h2,h3,fun e=>hk _ _ _ (h4 e),h5,h6,fun e t ht=>hk _ _ _ (h7 e t ht)⟩
   case trn x y=>
    obtain ⟨k,s,e,cs,σ1,h1,h2⟩:=hx
    exact ⟨k,s,e,cs,σ1,h1,fun t ht=>hk _ _ _ (h2 t ht)⟩
   case Mw e s l z ps=>
    obtain ⟨cs,h1,h2⟩:=hx
    exact ⟨cs,h1,h2.imp (fun h2 t ht=>hk _ _ _ (h2 t ht)) fun ⟨ds,h3,h4,h5⟩=>⟨ds,h3,h4,fun t ht=>hk _ _ _ (h5 t ht)⟩⟩
   case app e s b x y=>
    rcases hx with ⟨rows,σ1,srows,h1,h2,h3,h4,h5,h6⟩|⟨rows,srows,h1,h2,h3,h4,h5,h6,h7⟩
    · exact .inl ⟨rows,σ1,srows,h1,h2,h3,h4,h5,fun t ht=>hk _ _ _ (h6 t ht)⟩
    · exact .inr ⟨rows,srows,h1,h2,h3,h4,h5,h6,hk _ _ _ h7⟩
   case call f args=>
    obtain ⟨h1,R,h2,h3⟩:=hx
    exact ⟨h1,R,h2,fun v σ' hv=>hk _ _ _ (h3 v σ' hv)⟩
   case E1 x args=>
    obtain ⟨f,first,caps,h0,hb,h1,R,h2,h3⟩:=hx
    exact ⟨f,first,caps,h0,hb,h1,R,h2,fun v σ' hv=>hk _ _ _ (h3 v σ' hv)⟩
   case ex k xs=>
    simp only [XO,XEx,hV,AU,if_false] at hx ⊢
    exact ⟨hx.1,hx.2.mono fun v σ' _ hv=>hk _ _ _ hv⟩
theorem UY {q:Q} {K':CY} (hk:∀F L σ,K F L σ→K' F L σ) (hx:XQ P q K F L σ):XQ P q K' F L σ:=by
 unfold XQ at hx ⊢
 cases hc:gd F q.grd with
 |none=>rw [hc] at hx;exact hx.elim
 |some b=>
  rw [hc] at hx
  cases b
  · exact hk _ _ _ hx
  · exact j4 hk hx
inductive PT where
 |done
 |one (i:Nat) (t:PT)
 |alt (i:Nat) (t r:PT)
 |lay (i:Nat) (t:PT)
inductive QT where
 |done
 |one (q:Q) (t:QT)
 |alt (q:Q) (t r:QT)
def XT (P:Program) (K:CY):Bool→QT→CY
 |false,.done=>K
 |true,.done=>fun _ _ _=>True
 |_,.one q t=>XQ P q (XT P K false t)
 |_,.alt q t r=>fun F L σ=>XQ P q (XT P K false t) F L σ∧XT P K true r F L σ
def PT.depth:PT→Nat
 | .done=>0
 | .one _ t=>t.depth+1
 | .alt _ t r=>max (t.depth+1) r.depth
 | .lay _ t=>t.depth+1
def Vj (qs:List Q):PT→Option QT
 | .done=>some .done
 | .one i t=>(qs[i]?).bind fun q=>(Vj qs t).map (.one q ·)
 | .alt i t r=>(qs[i]?).bind fun q=>(Vj qs t).bind fun t'=>(Vj qs r).map (.alt q t' ·)
 | .lay i t=>(qs[i]?).bind fun q=>(Vj qs t).map (.one q ·)
def NY (ops:Array Oper) (tab:Array Nat) (qs:List Q):PT→Array Bool→Option (List Nat)→Bool
 | .done,listed,none=>(Region.ready .any ops listed).isEmpty
 | .done,listed,some l=>(Region.ready .any ops listed).all (l.contains ·)
 | .one i t,listed,none=>(Region.ready .any ops listed).contains i&&(Region.ready .any ops listed==[i]||Xm tab qs listed i)&&NY ops tab qs t (listed.setIfInBounds i true) none
 | .one i t,listed,some l=>(Region.ready .any ops listed).contains i&&(Region.ready .any ops listed).all (fun j=>j==i||l.contains j)&&NY ops tab qs t (listed.setIfInBounds i true) none
 | .alt i t r,listed,e=>(Region.ready .any ops listed).contains i&&NY ops tab qs t (listed.setIfInBounds i true) none&&NY ops tab qs r listed (some (i::e.getD []))
 | .lay _ _,_,_=>false
theorem Xq {ops:Array Oper} {tab:Array Nat} (htab:∀j i,(tab.getD j 0).testBit i=true→Anc ops j i) {qs:List Q}:∀(t:PT) (qt:QT),Vj qs t=some qt→
 (∀n listed F L σ,t.depth≤n→NY ops tab qs t listed none=true→JE ops listed→listed.size=ops.size→XT P K false qt F L σ→Vy P ops qs K n listed F L σ)∧
 (∀n listed l F L σ,t.depth≤n+1→NY ops tab qs t listed (some l)=true→JE ops listed→listed.size=ops.size→XT P K true qt F L σ→
   ∀j∈Region.ready .any ops listed,j ∉ l→∃q,qs[j]?=some q∧XQ P q (Vy P ops qs K n (listed.setIfInBounds j true)) F L σ)
 | .done,qt,hp=>by
  simp only [Vj,AR] at hp;subst hp
  refine ⟨fun n listed F L σ _ hp _ _ hx=>?_,fun n listed l F L σ _ hp _ _ _ j hj hjl=>?_⟩
  · simp only [NY,List.isEmpty_iff] at hp
    cases n with
    |zero=>exact ⟨hp,hx⟩
    |succ n=>exact ⟨fun _=>hx,fun i hi=>by rw [hp] at hi;cases hi⟩
  · simp only [NY,A4,Bb] at hp
    exact absurd (hp j hj) hjl
 | .one i t,qt,hp=>by
  simp only [Vj,AF,AL] at hp
  obtain ⟨q,hq,t',ht',rfl⟩:=hp
  obtain ⟨ih,_⟩:=Xq htab t t' ht'
  refine ⟨fun n listed F L σ hd hp hcl hsz hx=>?_,fun n listed l F L σ hd hp hcl hsz hx j hj hjl=>?_⟩
  · simp only [PT.depth] at hd
    obtain ⟨m,rfl⟩:∃m,n=m+1:=⟨n - 1,by omega⟩
    simp only [NY,AM,BX,Bb,beq_iff_eq] at hp
    obtain ⟨⟨hr,hok⟩,hrest⟩:=hp
    have hx:XQ P q (XT P K false t') F L σ:=hx
    have ih':=fun F L σ=>ih m (listed.setIfInBounds i true) F L σ (by omega) hrest (hcl.set hr) (by simpa using hsz)
    rcases hok with hok|hok
    · refine ⟨fun h=>(by rw [h] at hr;cases hr),fun j hj=>?_⟩
      rw [hok] at hj
      simp only [Dy] at hj
      subst hj
      exact ⟨_,hq,UY (fun F L σ h=>ih' F L σ h) hx⟩
    · unfold Xm at hok
      rw [hq] at hok
      simp only [AM,A4] at hok
      obtain ⟨v,hy,hk⟩:=(sM hok.1 _).1 hx
      refine Zw htab hq hok.1 m listed F L σ v hcl hsz (fun j qj hj hji hun=>?_) hr hy (ih' _ _ _ hk)
      have hmem:(qj,j)∈qs.zipIdx:=by
       rw [T4];exact hj
      have:=hok.2 (qj,j) hmem
      simp only [BX,beq_iff_eq] at this
      rcases this with (h|h)|h
      · exact absurd h hji
      · rw [hun] at h;cases h
      · exact h
  · simp only [PT.depth] at hd
    simp only [NY,AM,A4,Bb,BX,beq_iff_eq] at hp
    obtain ⟨⟨hr,hall⟩,hrest⟩:=hp
    have hx:XQ P q (XT P K false t') F L σ:=hx
    rcases hall j hj with rfl|h
    · exact ⟨q,hq,UY (fun F L σ h=>ih n _ F L σ (by omega) hrest (hcl.set hr) (by simpa using hsz) h) hx⟩
    · exact absurd h hjl
 | .alt i t r,qt,hp=>by
  simp only [Vj,AF,AL] at hp
  obtain ⟨q,hq,t',ht',r',hr',rfl⟩:=hp
  obtain ⟨ih,_⟩:=Xq htab t t' ht'
  obtain ⟨_,ihr⟩:=Xq htab r r' hr'
  refine ⟨fun n listed F L σ hd hp hcl hsz hx=>?_,fun n listed l F L σ hd hp hcl hsz hx j hj hjl=>?_⟩
  · simp only [PT.depth] at hd
    obtain ⟨m,rfl⟩:∃m,n=m+1:=⟨n - 1,by omega⟩
    simp only [NY,AM,Bb,Option.getD_none] at hp
    obtain ⟨⟨hr,hrest⟩,hp2⟩:=hp
    obtain ⟨hx1,hx2⟩:=hx
    refine ⟨fun h=>(by rw [h] at hr;cases hr),fun j hj=>?_⟩
    by_cases hji:j=i
    · subst hji
      exact ⟨q,hq,UY (fun F L σ h=>ih m _ F L σ (by omega) hrest (hcl.set hr) (by simpa using hsz) h) hx1⟩
    · exact ihr m listed [i] F L σ (by omega) hp2 hcl hsz hx2 j hj (by simpa using hji)
  · simp only [PT.depth] at hd
    simp only [NY,AM,Bb,RK] at hp
    obtain ⟨⟨hr,hrest⟩,hp2⟩:=hp
    obtain ⟨hx1,hx2⟩:=hx
    by_cases hji:j=i
    · subst hji
      exact ⟨q,hq,UY (fun F L σ h=>ih n _ F L σ (by omega) hrest (hcl.set hr) (by simpa using hsz) h) hx1⟩
    · exact ihr n listed (i::l) F L σ (by omega) hp2 hcl hsz hx2 j hj (by simp [hji,hjl])
 | .lay i t,qt,hp=>⟨fun n listed F L σ _ hp=>by simp [NY] at hp,fun n listed l F L σ _ hp=>by simp [NY] at hp⟩
end Go.Ab
namespace Go.Ab
open Go.RowKit
variable {P:Program} {base N:Nat} {g g':Gh} {Pr:Nat→Prop} {σ σ':AN} {w0 w w':World} {lam:Nat→Option Nat} {F:Fm} {L:Lm} {a:Act} {K:CY} {d:Nat} {z:List AV}
theorem VR.BJ {x:AV} {v:Value} (h:VR g x v) (d:Nat):x.BJ d=false:=by cases h<;>rfl
theorem W0 {x:AV} (h:x.As=true) (d:Nat):x.BJ d=false:=by cases x<;>first|rfl|(cases h;done)
theorem gV {x:AV} (h:x.CU=true) (d:Nat):x.BJ d=false:=by cases x<;>first|rfl|(cases h;done)
theorem AQ.BJ {f:FuncId} {args:List AV} {Q:AV→AN→Prop} (h:AQ P f args σ Q) (d:Nat):AQ P f args σ (fun v σ'=>Q v σ'∧v.BJ d=false):=
 fun base g Pr w0 w vs hr hv=>(h base g Pr w0 w vs hr hv).mono fun _ _ ⟨v,av,g',σ',a,b,c,d',e,q⟩=>⟨v,av,g',σ',a,b,c,d',e,q,b.BJ d⟩
def Off (d:Nat) (F:Fm):Prop:=∀s,(F s).BJ d=false
theorem Off.At (h:Off d F) {dst:Option Nat} {v:AV} (hv:v.BJ d=false):Off d (At dst v F):=by
 intro s
 cases dst with
 |none=>exact h s
 |some k=>
  simp only [Ab.At,Ab.put]
  split
  · exact hv
  · exact h s
theorem Off.DR (h:Off d F) (k:Nat):Off d (DR k F):=by
 intro s
 simp only [Ab.DR]
 split
 · rfl
 · exact h s
theorem cK (d:Nat) (F:Fm):Off d (DR d F):=by
 intro s
 simp only [DR]
 split
 · rfl
 · rename_i h;simpa using h
def cOk:X→Bool
 | .t _=>true
 | .c v=>v.As
theorem TL (h:Off d F) {x:X} (hx:cOk x=true):(xv F x).BJ d=false:=by
 cases x with
 |t n=>exact h n
 |c v=>exact W0 hx d
def TQ:O→Bool
 | .mv x| .fld x _| .ld x _| .ldl x _| .nck x=>cOk x
 | .pick _ x y=>cOk x&&cOk y
 | .st x _ _=>cOk x
 |_=>true
theorem eS {k:Nat} (h:k≠d) (z:List AV) (L:Lm):BZ d z L k=L k:=by simp [BZ,h]
theorem xZ {p:AV} (hp:p.BJ d=false) (n:Option Nat):ldA (BZ d z L) σ p n=ldA L σ p n:=by
 cases p<;>try rfl
 · rename_i dx;cases dx<;>rfl
 rename_i k o
 have:k≠d:=by simpa [AV.BJ] using hp
 simp [ldA,eS this]
theorem uH {p:AV} (hp:p.BJ d=false) (n:Option Nat):eH (BZ d z L) p n=eH L p n:=by
 cases p<;>try rfl
 rename_i k o
 have:k≠d:=by simpa [AV.BJ] using hp
 simp [eH,eS this]
theorem ACE (h:Off d F) {o:O} (hc:TQ o=true):pv F (BZ d z L) σ o=pv F L σ o:=by
 cases o<;>try rfl
 case ld x n=>exact xZ (TL h hc) n
 case ldl x n=>exact uH (TL h hc) n
theorem TX {cs:List AV} {o:Nat} {n:Option Nat} {v:AV} (h:rdC cs o n=some v):v.BJ d=false:=by
 cases n with
 |none=>
  simp only [rdC,AF] at h
  obtain ⟨v0,_,h⟩:=h
  obtain ⟨rfl,hc⟩:=U5 h
  exact gV hc d
 |some n=>
  simp only [rdC] at h
  split at h
  · cases h;rfl
  · cases h
theorem tW {op:BinOp} {k:IntKind} {x y:Int} {v:AV} (h:qH op k x y=some v):v.BJ d=false:=by
 unfold qH at h
 split at h<;>first|(cases h;rfl)|(split at h<;>first|(cases h;done)|(cases h;rfl))|(cases h;done)
theorem wK {op:BinOp} {x y:List UInt8} {v:AV} (h:bF op x y=some v):v.BJ d=false:=by
 unfold bF at h
 split at h<;>first|(cases h;rfl)|(split at h<;>first|(cases h;done)|(cases h;rfl))|(cases h;done)
theorem oG {b:Bool} {x y v:AV} (h:mmA b x y=some v):v.BJ d=false:=by
 unfold mmA at h
 split at h
 · split at h
   · cases h;rfl
   · cases h
 · cases h
theorem eC {rows:List (List DV)} {m:Int} {n:Nat} {v:AV} (h:ixR rows m n=some v):v.BJ d=false:=by
 unfold ixR at h
 split at h
 · simp only [AF] at h
   obtain ⟨r,_,h⟩:=h
   split at h
   · cases h;rfl
   · cases h
 · cases h
theorem xO {k:EK} {args:List AV} {v:AV} (h:exP k args=some v):v.BJ d=false:=by
 obtain ⟨_,h⟩:=Xh h
 unfold UH at h
 split at h
 · cases h;rfl
 · simp only [AL] at h;obtain ⟨_,_,rfl⟩:=h;rfl
 · simp only [AL] at h;obtain ⟨_,_,rfl⟩:=h;rfl
 · cases h
theorem y8 (h:Off d F) {o:O} (hc:TQ o=true) {v:AV} (hv:pv F L σ o=some v):v.BJ d=false:=by
 cases o<;>simp only [pv] at hv<;>try (cases hv;done)
 case mv x=>cases hv;exact TL h hc
 case ex k xs=>exact xO hv
 case pick c x y=>
  simp only [TQ,AM] at hc
  unfold iN at hv
  split at hv
  · cases hv;split
    · exact TL h hc.1
    · exact TL h hc.2
  · cases hv
 case fld x off=>
  have hx:=TL h hc
  generalize xv F x=p at hv hx
  cases p<;>simp only [kV] at hv<;>try (cases hv;done)
  · rename_i dx;cases dx<;>simp only at hv<;>first|(cases hv;done)|(cases hv;rfl)
  · cases hv;exact hx
  · cases hv;rfl
  · cases hv;rfl
 case ld x n=>
  generalize xv F x=p at hv
  cases p<;>simp only [ldA] at hv<;>try (cases hv;done)
  · rename_i dx;cases dx<;>simp only at hv<;>first|(cases hv;done)|exact TX hv
  · simp only [AF] at hv;obtain ⟨_,_,hv⟩:=hv;exact TX hv
  · simp only [AF] at hv;obtain ⟨_,_,hv⟩:=hv;exact TX hv
  · exact TX hv
 case ldl x n=>
  generalize xv F x=p at hv
  cases p<;>simp only [eH] at hv<;>try (cases hv;done)
  simp only [AF] at hv;obtain ⟨_,_,hv⟩:=hv;exact TX hv
 case ix x i n=>
  unfold ixA at hv
  split at hv
  · split at hv
    · cases hv;rfl
    · cases hv
  · split at hv
    · cases hv;rfl
    · cases hv
  · exact eC hv
  · exact eC hv
  · exact eC hv
  · cases hv
 case Oh x i=>
  unfold Zf at hv
  split at hv
  · split at hv
    · simp only [AL] at hv;obtain ⟨_,_,rfl⟩:=hv;rfl
    · cases hv
  · cases hv
 case len x=>
  unfold Tg at hv
  split at hv<;>first|(cases hv;rfl)|(cases hv;done)
 case Hp x=>
  unfold cW at hv
  split at hv<;>first|(cases hv;rfl)|(cases hv;done)
 case bin op x y=>
  unfold pI at hv
  split at hv
  · split at hv
    · exact tW hv
    · cases hv
  · exact wK hv
  · cases hv
 case sX op x y=>
  unfold bQ at hv
  split at hv<;>first|(cases hv;rfl)|(cases hv;done)
 case un op x=>
  unfold unA at hv
  split at hv<;>first|(cases hv;rfl)|(cases hv;done)
 case conv k x=>
  unfold bY at hv
  split at hv<;>first|(cases hv;rfl)|(cases hv;done)
 case bld z ps=>simp only [AL] at hv;obtain ⟨_,_,rfl⟩:=hv;rfl
 case bsl s n z ps=>simp only [AL] at hv;obtain ⟨_,_,rfl⟩:=hv;rfl
 case mkf f x y=>
  split at hv
  · cases hv;rfl
  · cases hv
 case ext x i=>
  unfold pX at hv
  split at hv
  · simp only [AF] at hv
    obtain ⟨v0,_,hv⟩:=hv
    obtain ⟨rfl,hn⟩:=ZH hv
    exact W0 hn d
  · cases hv
 case nck x=>
  have hx:=TL h hc
  generalize xv F x=p at hv hx
  cases p<;>simp only [uX] at hv<;>try (cases hv;done)
  · rename_i dx;cases dx<;>simp only at hv<;>first|(cases hv;done)|(cases hv;rfl)
  · cases hv;exact hx
  · cases hv;rfl
  · cases hv;rfl
 case mm b x y=>exact oG hv
 case fd x off n=>
  generalize xv F x=p at hv
  cases p<;>simp only [fdA] at hv<;>try (cases hv;done)
  exact TX hv
 case ssl x lo hi=>
  unfold Sz at hv
  split at hv
  · simp only [AL] at hv;obtain ⟨_,_,rfl⟩:=hv;rfl
  · cases hv
 case sls x lo hi mx n=>
  unfold rT at hv
  split at hv
  · split at hv
    · cases hv;rfl
    · cases hv
  · simp only [AF] at hv
    obtain ⟨_,_,hv⟩:=hv
    split at hv
    · cases hv;rfl
    · cases hv
  · simp only [AF] at hv
    obtain ⟨_,_,hv⟩:=hv
    split at hv
    · cases hv;rfl
    · cases hv
  simp only [AF] at hv
  obtain ⟨rows,_,hv⟩:=hv
  unfold Ur at hv
  split at hv
  · simp only [AF] at hv
    obtain ⟨b,_,hv⟩:=hv
    split at hv
    · cases hv;rfl
    · split at hv
      · cases hv;rfl
      · cases hv
    · cases hv
  · cases hv
 case mA ne x=>
  unfold cQ at hv
  split at hv<;>first|(cases hv;rfl)|(cases hv;done)
 case mR ne n x y=>
  unfold cX at hv
  split at hv
  · split at hv
    · simp only [AL] at hv;obtain ⟨_,_,rfl⟩:=hv;rfl
    · cases hv
  · cases hv
 case mm3 b x y z=>
  simp only [AF] at hv
  obtain ⟨_,_,hv⟩:=hv
  exact oG hv
 case sY x=>simp only [AL] at hv;obtain ⟨_,_,rfl⟩:=hv;rfl
theorem EF {dst:Option Nat} (h:dst≠some d) (v x:AV) (F:Fm):At dst v (put d x F)=put d x (At dst v F):=
 W6 (d:=dst) (e:=some d) (fun k hk he=>h (by rw [hk,he])) v x F
theorem Sl {k:Nat} (h:d≠k) (F:Fm):DR k (put d (.lp d 0) F)=put d (.lp d 0) (DR k F):=by
 funext s
 simp only [DR,put]
 by_cases e:s=d
 · subst e;simp [AV.BJ,h]
 · simp [e]
theorem W5 {k:Nat} (h:k≠d) (x y:List AV) (L:Lm):BZ k x (BZ d y L)=BZ d y (BZ k x L):=by
 funext s
 simp only [BZ]
 by_cases e:s=k
 · subst e;simp [h]
 · simp [e]
theorem AAU {o:O} {dst:Option Nat} (hN:Off d F) (hc:TQ o=true) (hl:∀s∈J8 o,s≠d) (hd:dst≠some d) (hx:XO P dst K (put d (.lp d 0) F) (BZ d z L) σ o):
 XO P dst (fun F' L' σ'=>Off d F'∧K (put d (.lp d 0) F') (BZ d z L') σ') F L σ o:=by
 have hF:∀s∈J8 o,put d (.lp d 0) F s=F s:=fun s hs=>by simp [put,hl s hs]
 by_cases hV:isV o=true
 · rw [o9 hV] at hx ⊢
   obtain ⟨u,h1,h2⟩:=hx
   have h1:=YB hF h1
   have h3:Yv P F L σ u o∧u.BJ d=false:=by
    cases o<;>try (cases hV;done)
    case XE f args=>exact ⟨h1,W0 h1.2.1 d⟩
    all_goals
     simp only [Yv] at h1 ⊢
     rw [ACE hN hc] at h1
     exact ⟨h1,y8 hN hc h1⟩
   refine ⟨u,h3.1,hN.At h3.2,?_⟩
   rw [← EF hd];exact h2
 · cases o<;>simp only [isV,not_true_eq_false] at hV<;>simp only [J8,BY] at hF
   case box x sh=>
    simp only [XO,T5] at hx ⊢
    rw [← BG hF]
    refine ⟨hx.1,?_⟩
    have hx:=hx.2
    cases dst with
    |none=>exact hx.elim
    |some e=>
     have hne:d≠e:=fun h=>hd (by rw [h])
     cases sh with
     |true=>exact fun i hi=>⟨hN.At (dst:=some e) (v:= .gp i 0) rfl,by have:=hx i hi;rw [show put e (.gp i 0) (put d (.lp d 0) F)=put d (.lp d 0) (put e (.gp i 0) F) from EF (dst:=some e) hd _ _ _] at this;exact this⟩
     |false=>
      refine ⟨(hN.DR e).At (dst:=some e) (v:= .lp e 0) (by simp [AV.BJ];exact Ne.symm hne),?_⟩
      have hx:K (put e (.lp e 0) (DR e (put d (.lp d 0) F))) (BZ e (xv (put d (.lp d 0) F) x).cells (BZ d z L)) σ:=hx
      rw [Sl hne,W5 (Ne.symm hne),show put e (.lp e 0) (put d (.lp d 0) (DR e F))=put d (.lp d 0) (put e (.lp e 0) (DR e F)) from EF (dst:=some e) hd _ _ _] at hx
      exact hx
   case al y sh=>
    simp only [XO,T5] at hx ⊢
    refine ⟨hx.1,?_⟩
    have hx:=hx.2
    cases dst with
    |none=>exact hx.elim
    |some e=>
     have hne:d≠e:=fun h=>hd (by rw [h])
     cases sh with
     |true=>exact fun i hi=>⟨hN.At (dst:=some e) (v:= .gp i 0) rfl,by have:=hx i hi;rw [show put e (.gp i 0) (put d (.lp d 0) F)=put d (.lp d 0) (put e (.gp i 0) F) from EF (dst:=some e) hd _ _ _] at this;exact this⟩
     |false=>
      refine ⟨(hN.DR e).At (dst:=some e) (v:= .lp e 0) (by simp [AV.BJ];exact Ne.symm hne),?_⟩
      have hx:K (put e (.lp e 0) (DR e (put d (.lp d 0) F))) (BZ e y (BZ d z L)) σ:=hx
      rw [Sl hne,W5 (Ne.symm hne),show put e (.lp e 0) (put d (.lp d 0) (DR e F))=put d (.lp d 0) (put e (.lp e 0) (DR e F)) from EF (dst:=some e) hd _ _ _] at hx
      exact hx
   case st x y n=>
    simp only [XO,XSt] at hx ⊢
    rw [BG (F:=put d (.lp d 0) F) (F':=F) (fun s hs=>hF s (.inl hs)),BG (F:=put d (.lp d 0) F) (F':=F) (fun s hs=>hF s (.inr hs))] at hx
    obtain ⟨h1,h2,h3,h4⟩:=hx
    refine ⟨h1,h2,h3,?_⟩
    have hp:=TL hN hc
    generalize xv F x=p at hp h4
    cases p<;>simp only [stA] at h4 ⊢<;>try (exact h4.elim)
    · rename_i k o2
      have hk:k≠d:=by simpa [AV.BJ] using hp
      rw [eS hk] at h4
      cases hL:L k with
      |none=>rw [hL] at h4;exact h4.elim
      |some cs=>
       rw [hL] at h4
       simp only [B2] at h4 ⊢
       by_cases hle:o2+(xv F y).cells.length≤cs.length
       · rw [if_pos hle] at h4 ⊢
         refine ⟨hN,?_⟩
         have h4:K (put d (.lp d 0) F) (BZ k (wr cs o2 (xv F y).cells) (BZ d z L)) σ:=h4
         rw [W5 hk] at h4;exact h4
       · rw [if_neg hle] at h4;exact h4.elim
    · rename_i i o2
      cases hb:σ.blk i with
      |none=>rw [hb] at h4;exact h4.elim
      |some cs=>
       rw [hb] at h4
       simp only [B2] at h4 ⊢
       by_cases hle:o2+(xv F y).cells.length≤cs.length
       · rw [if_pos hle] at h4 ⊢;exact ⟨hN,h4⟩
       · rw [if_neg hle] at h4;exact h4.elim
   case msl e s b y l c=>
    obtain ⟨k,k',n,h1,h2,h3,h4,h5,h6⟩:=hx
    refine ⟨k,k',n,by rw [← BG (fun s hs=>hF s (.inl hs))];exact h1,by rw [← BG (fun s hs=>hF s (.inr hs))];exact h2,h3,h4,h5,fun i hi=>⟨hN.At rfl,?_⟩⟩
    rw [← EF hd];exact h6 i hi
   case app e s b x y=>
    rcases hx with ⟨rows,σ1,srows,h1,h2,h3,h4,h5,h6⟩|⟨rows,srows,h1,h2,h3,h4,h5,h6,h7⟩
    · refine .inl ⟨rows,σ1,srows,by rw [← BG (fun s hs=>hF s (.inl hs))];exact h1,by rw [← BG (fun s hs=>hF s (.inr hs))];exact h2,h3,h4,h5,fun t ht=>⟨hN.At rfl,?_⟩⟩
      rw [← EF hd];exact h6 t ht
    · refine .inr ⟨rows,srows,by rw [← BG (fun s hs=>hF s (.inl hs))];exact h1,by rw [← BG (fun s hs=>hF s (.inr hs))];exact h2,h3,h4,h5,h6,⟨hN.At rfl,?_⟩⟩
      rw [← EF hd];exact h7
   case YF e s b x y=>
    obtain ⟨n,cs,σ1,srows,h1,h2,h3,h4,h5,h6,h7⟩:=hx
    refine ⟨n,cs,σ1,srows,by rw [← BG (fun s hs=>hF s (.inl hs))];exact h1,by rw [← BG (fun s hs=>hF s (.inr hs))];exact h2,h3,fun e=>⟨hN.At ?_,?_⟩,h5,h6,fun e t ht=>⟨hN.At rfl,?_⟩⟩
    · unfold Qs at h1
      rw [← BG (fun s hs=>hF s (.inl hs))]
      generalize xv _ x=xx at h1
      cases xx<;>first|rfl|(cases h1;done)
    · rw [← EF hd,← BG (fun s hs=>hF s (.inl hs))];exact h4 e
    · rw [← EF hd];exact h7 e t ht
   case trn x y=>
    obtain ⟨k,s,e,cs,σ1,h1,h2⟩:=hx
    refine ⟨k,s,e,cs,σ1,by rw [← BG (fun s hs=>hF s (.inl hs)),← BG (fun s hs=>hF s (.inr hs))];exact h1,fun t ht=>⟨hN.At rfl,?_⟩⟩
    rw [← EF hd];exact h2 t ht
   case Mw e s l y ps=>
    obtain ⟨cs,h1,h2⟩:=hx
    refine ⟨cs,by rw [← OK _ _ hF];exact h1,h2.imp (fun h2 t ht=>⟨hN.At rfl,?_⟩) fun ⟨ds,h3,h4,h5⟩=>⟨ds,h3,h4,fun t ht=>⟨hN.At rfl,?_⟩⟩⟩
    · rw [← EF hd];exact h2 t ht
    · rw [← EF hd];exact h5 t ht
   case call f args=>
    obtain ⟨h1,R,h2,h3⟩:=hx
    rw [Gm hF] at h1 h2
    refine ⟨h1,_,h2.BJ d,fun u σ' hv=>⟨hN.At hv.2,?_⟩⟩
    rw [← EF hd];exact h3 u σ' hv.1
   case E1 x args=>
    obtain ⟨f,first,caps,h0,hb,h1,R,h2,h3⟩:=hx
    rw [Gm (fun s hs=>hF s (.inr hs))] at h1 h2
    refine ⟨f,first,caps,by rw [← BG (fun s hs=>hF s (.inl hs))];exact h0,hb,h1,_,h2.BJ d,fun u σ' hv=>⟨hN.At hv.2,?_⟩⟩
    rw [← EF hd];exact h3 u σ' hv.1
   case ex k xs=>
    simp only [XO,XEx,hV,AU,if_false] at hx ⊢
    rw [Gm hF] at hx
    refine ⟨hx.1,hx.2.mono fun u σ' hu hv=>⟨hN.At (hu d),?_⟩⟩
    rw [← EF hd];exact hv
theorem AAW {q:Q} (hN:Off d F) (hc:TQ q.o=true) (hl:∀s∈q.looks,s≠d) (hd:q.dst≠some d) (hx:XQ P q K (put d (.lp d 0) F) (BZ d z L) σ):
 XQ P q (fun F' L' σ'=>Off d F'∧K (put d (.lp d 0) F') (BZ d z L') σ') F L σ:=by
 have h1:∀s∈J8 q.o,s≠d:=fun s hs=>hl s (by simp [Q.looks,hs])
 unfold XQ at hx ⊢
 rw [Yh (F:=put d (.lp d 0) F) (F':=F) (fun s hs=>by simp [put,hl s hs])] at hx
 cases hc2:gd F q.grd with
 |none=>rw [hc2] at hx;exact hx.elim
 |some b=>
  rw [hc2] at hx
  cases b
  · have hx:K (At q.dst (.tup []) (put d (.lp d 0) F)) (BZ d z L) σ:=hx
    rw [EF hd] at hx
    exact ⟨hN.At rfl,hx⟩
  · exact AAU hN hc h1 hd hx
theorem rN (h:Off d F):DR d F=F:=by
 funext s
 simp [DR,h s]
def AAI (tab:Array Nat) (qs:List Q) (i d:Nat):Bool:=
 qs.zipIdx.all fun (qj,j)=>j==i||(tab.getD j 0).testBit i||(TQ qj.o&& !qj.looks.contains d&&qj.dst != some d)
theorem zM {ops:Array Oper} {tab:Array Nat} (htab:∀j i,(tab.getD j 0).testBit i=true→Anc ops j i) {qs:List Q} {i:Nat} (hi:qs[i]?=some ⟨some d,.al z false,none⟩) (hz:Am z=true) (hlay:AAI tab qs i d=true):
 ∀(fuel:Nat) (listed:Array Bool) (F:Fm) (L:Lm) (σ:AN),JE ops listed→listed.size=ops.size→i∈Region.ready .any ops listed→Off d F→
  Vy P ops qs K fuel (listed.setIfInBounds i true) (put d (.lp d 0) F) (BZ d z L) σ→Vy P ops qs K (fuel+1) listed F L σ:=by
 have hself:∀(K2:CY) (F:Fm) (L:Lm) (σ:AN),Off d F→K2 (put d (.lp d 0) F) (BZ d z L) σ→XQ P ⟨some d,.al z false,none⟩ K2 F L σ:=fun K2 F L σ hN h=>by
  show T5 z false (some d) K2 F L σ
  refine ⟨hz,?_⟩
  show K2 (put d (.lp d 0) (DR d F)) (BZ d z L) σ
  rw [rN hN];exact h
 intro fuel
 induction fuel with
 |zero=>
  intro listed F L σ hcl hsz hr hN H
  refine ⟨fun h=>(by rw [h] at hr;cases hr),fun j hj=>?_⟩
  by_cases hji:i=j
  · subst hji;exact ⟨_,hi,hself _ _ _ _ hN H⟩
  · have:=PY hj hji
    rw [H.1] at this;cases this
 |succ fuel ih=>
  intro listed F L σ hcl hsz hr hN H
  refine ⟨fun h=>(by rw [h] at hr;cases hr),fun j hj=>?_⟩
  by_cases hji:i=j
  · subst hji;exact ⟨_,hi,hself _ _ _ _ hN H⟩
  · obtain ⟨qj,hqj,hxj⟩:=H.2 j (PY hj hji)
    obtain ⟨hjlt,hjun,oj,hoj,hjall⟩:=Kn.1 hj
    have hiun:=(Kn.1 hr).2.1
    have hilt:=(Kn.1 hr).1
    have hmem:(qj,j)∈qs.zipIdx:=by rw [T4];exact hqj
    have hb:=A4.1 hlay (qj,j) hmem
    simp only [BX,beq_iff_eq,AM,CV,bne_iff_ne] at hb
    rcases hb with (hb|hanc)|⟨⟨hc,hlk⟩,hdst⟩
    · exact absurd hb.symm hji
    · have h1:=YE hcl (htab j i hanc) (fun o ho=>by rw [hoj] at ho;cases ho;exact hjall)
      rw [Cl,MI (by omega)] at h1 hiun
      simp at h1 hiun
      rw [h1] at hiun;cases hiun
    · refine ⟨qj,hqj,?_⟩
      have hlk':∀s∈qj.looks,s≠d:=fun s hs he=>by subst he;rw [← RH,Bb] at hlk;exact hlk hs
      have hcomm:(listed.setIfInBounds i true).setIfInBounds j true=(listed.setIfInBounds j true).setIfInBounds i true:=Array.setIfInBounds_comm _ _ hji
      refine UY (fun F' L' σ' h=>?_) (AAW hN hc hlk' hdst hxj)
      refine ih _ F' L' σ' (hcl.set hj) (by simpa using hsz) (PY hr (Ne.symm hji)) h.1 ?_
      rw [← hcomm];exact h.2
def O9:List Nat→Fm→Fm
 |[],F=>F
 |d::ds,F=>O9 ds (DR d F)
theorem XH:∀(ds:List Nat) (F:Fm) (s:Nat),O9 ds F s=F s∨O9 ds F s= .undef
 |[],F,s=>.inl rfl
 |d::ds,F,s=>by
  rcases XH ds (DR d F) s with h|h
  · rw [O9,h];simp only [DR];split<;>simp
  · exact .inr h
theorem ZQ:∀(ds:List Nat) (F:Fm) (d:Nat),(d∈ds∨Off d F)→Off d (O9 ds F)
 |[],F,d,h=>by
  rcases h with h|h
  · cases h
  · exact h
 |e::ds,F,d,h=>by
  refine ZQ ds (DR e F) d ?_
  rcases h with h|h
  · cases h with
    |head=>exact .inr (cK _ F)
    |tail _ h=>exact .inl h
  · exact .inr (h.DR e)
theorem ZR:∀(ds:List Nat) (F:Fm) (d:Nat),d ∉ ds→O9 ds (put d (.lp d 0) F)=put d (.lp d 0) (O9 ds F)
 |[],F,d,_=>rfl
 |e::ds,F,d,h=>by
  simp only [CW,not_or] at h
  simp only [O9]
  rw [Sl h.1,ZR ds _ d h.2]
def Pj:PT→List Nat×PT
 | .lay i t=>(i::(Pj t).1,(Pj t).2)
 |t=>([],t)
def uF (qs:List Q):List Nat→Option (List (Nat×Nat×List AV))
 |[]=>some []
 |i::l=>match qs[i]? with
  |some ⟨some d,.al z false,none⟩=>if Am z then (uF qs l).map ((i,d,z)::·) else none
  |_=>none
def WT (ops:Array Oper) (tab:Array Nat) (qs:List Q):List (Nat×Nat×List AV)→Array Bool→Bool
 |[],_=>true
 |(i,d,_)::r,listed=>(Region.ready .any ops listed).contains i&&AAI tab qs i d&& !(r.map (·.2.1)).contains d&&WT ops tab qs r (listed.setIfInBounds i true)
def Zb:List Nat→Array Bool→Array Bool
 |[],a=>a
 |i::l,a=>Zb l (a.setIfInBounds i true)
def ABX:List (Nat×Nat×List AV)→Fm→Fm
 |[],F=>F
 |(_,d,_)::r,F=>ABX r (put d (.lp d 0) (DR d F))
def ABY:List (Nat×Nat×List AV)→Lm→Lm
 |[],L=>L
 |(_,d,z)::r,L=>ABY r (BZ d z L)
theorem dE {ops:Array Oper} {tab:Array Nat} (htab:∀j i,(tab.getD j 0).testBit i=true→Anc ops j i) {qs:List Q} {n:Nat}:∀(ls:List (Nat×Nat×List AV)) (listed:Array Bool) (F:Fm) (L:Lm) (σ:AN),
 (∀x∈ls,qs[x.1]?=some ⟨some x.2.1,.al x.2.2 false,none⟩∧Am x.2.2=true)→WT ops tab qs ls listed=true→JE ops listed→listed.size=ops.size→
 Vy P ops qs K n (Zb (ls.map (·.1)) listed) (ABX ls F) (ABY ls L) σ→Vy P ops qs K (n+ls.length) listed (O9 (ls.map (·.2.1)) F) L σ
 |[],listed,F,L,σ,_,_,_,_,h=>h
 |(i,d,z)::r,listed,F,L,σ,hq,hok,hcl,hsz,h=>by
  simp only [WT,AM,Bb,CV] at hok
  obtain ⟨⟨⟨hr,hlay⟩,hnd⟩,hrest⟩:=hok
  have hnd':d ∉ r.map (·.2.1):=fun hm=>by rw [← RH,Bb] at hnd;exact hnd hm
  obtain ⟨hi,hz⟩:=hq (i,d,z) (by simp)
  have ih:=dE htab (n:=n) r (listed.setIfInBounds i true) (put d (.lp d 0) (DR d F)) (BZ d z L) σ (fun x hx=>hq x (by simp [hx])) hrest (hcl.set hr) (by simpa using hsz) h
  rw [ZR _ _ _ hnd'] at ih
  exact zM htab hi hz hlay (n+r.length) listed _ L σ hcl hsz hr (ZQ (r.map (·.2.1)) (DR d F) d (.inr (cK d F))) ih
theorem US {ops:Array Oper} {tab:Array Nat} {qs:List Q}:∀(ls:List (Nat×Nat×List AV)) (listed:Array Bool),WT ops tab qs ls listed=true→JE ops listed→listed.size=ops.size→JE ops (Zb (ls.map (·.1)) listed)∧(Zb (ls.map (·.1)) listed).size=ops.size
 |[],listed,_,hc,hs=>⟨hc,hs⟩
 |(i,d,z)::r,listed,hok,hcl,hsz=>by
  simp only [WT,AM,Bb] at hok
  exact US r _ hok.2 (hcl.set hok.1.1.1) (by simpa using hsz)
def oP (ls:List (Nat×Nat×List AV)) (t:QT):QT:=ls.foldr (fun x acc=>.one ⟨some x.2.1,.al x.2.2 false,none⟩ acc) t
theorem iO:∀(ls:List (Nat×Nat×List AV)) (t:QT) (F:Fm) (L:Lm),XT P K false (oP ls t) F L σ→XT P K false t (ABX ls F) (ABY ls L) σ
 |[],t,F,L,h=>h
 |(i,d,z)::r,t,F,L,h=>by
  have h:XQ P ⟨some d,.al z false,none⟩ (XT P K false (oP r t)) F L σ:=h
  have h:T5 z false (some d) (XT P K false (oP r t)) F L σ:=h
  exact iO r t _ _ h.2
def Y8 (P:Program) (N:Nat) (esc:List Nat) (pf:List FuncId) (pt:PT) (ops:Array Oper):Option QT:=do
 let qs ← NG P N esc ops (Ix ops.size)
 let qs:=qs.map (toP pf)
 let tab:=WA ops.toList #[]
 let ls ← uF qs (Pj pt).1
 let l0:=En ops.size false
 if WT ops tab qs ls l0&&NY ops tab qs (Pj pt).2 (Zb (ls.map (·.1)) l0) none&&decide ((Pj pt).2.depth+ls.length≤ops.size) then (Vj qs (Pj pt).2).map (oP ls) else none
theorem cI {qs:List Q}:∀(l:List Nat) (ls:List (Nat×Nat×List AV)),uF qs l=some ls→∀x∈ls,qs[x.1]?=some ⟨some x.2.1,.al x.2.2 false,none⟩∧Am x.2.2=true
 |[],ls,h,x,hx=>by simp only [uF,AR] at h;subst h;cases hx
 |i::l,ls,h,x,hx=>by
  simp only [uF] at h
  split at h
  · rename_i d z hq
    split at h
    · rename_i hz
      simp only [AL] at h
      obtain ⟨r,hr,rfl⟩:=h
      cases hx with
      |head=>exact ⟨hq,hz⟩
      |tail _ hx=>exact cI l r hr x hx
    · cases h
  · cases h
theorem bJ {ops:Array Oper} {qs:List Q}:∀(n m:Nat) (listed:Array Bool) (F:Fm) (L:Lm) (σ:AN),n≤m→Vy P ops qs K n listed F L σ→Vy P ops qs K m listed F L σ
 |0,0,listed,F,L,σ,_,h=>h
 |0,m+1,listed,F,L,σ,_,h=>⟨fun _=>h.2,fun i hi=>by rw [h.1] at hi;cases hi⟩
 |n+1,0,listed,F,L,σ,hle,h=>by omega
 |n+1,m+1,listed,F,L,σ,hle,h=>⟨h.1,fun i hi=>by
  obtain ⟨q,hq,hx⟩:=h.2 i hi
  exact ⟨q,hq,UY (fun F L σ h=>bJ n m _ F L σ (by omega) h) hx⟩⟩
theorem B4.AD1 (h:B4 base g lam Pr N F L σ a w0 w) {F':Fm} (hF:∀s,F' s=F s∨F' s= .undef):B4 base g lam Pr N F' L σ a w0 w:=by
 refine ⟨fun s=>?_,h.sz,h.df,h.loc,h.inj,h.npr,h.rel⟩
 rcases hF s with e|e
 · rw [e];exact h.tm s
 · rw [e];exact VR.undef
theorem Wt {ops:Array Oper} {esc:List Nat} {pf:List FuncId} {pt:PT} {qt:QT} (hm:P.follows .mixedOrders=true) (hc:Y8 P N esc pf pt ops=some qt) (hx:XT P K false qt F L σ)
 (h:B4 base g lam Pr N F L σ a w0 w) {id:Nat}:(Code.region id ops true).wp P (fun e a' w'=>e= .normal∧FI base Pr N w0 g w K a' w') a w:=by
 simp only [Y8,AT,AF] at hc
 obtain ⟨qs0,hq0,ls,hls,hc⟩:=hc
 split at hc
 case isFalse=>cases hc
 rename_i hp
 simp only [AM,decide_eq_true_eq] at hp
 simp only [AL] at hc
 obtain ⟨t,ht,rfl⟩:=hc
 have hcl:JE ops (En ops.size false):=by
  intro j o ho hj
  have:(En ops.size false).getD j false=false:=by
   simp only [Cl,Array.getElem?_replicate];split<;>rfl
  rw [this] at hj;cases hj
 obtain ⟨hcl2,hsz2⟩:=US ls _ hp.1.1 hcl (by simp)
 have hx2:=iO ls t F L hx
 have hany1:=(Xq (P:=P) (K:=K) (fun j i=>We) _ t ht).1 _ _ _ _ σ (A8 _) hp.1.2 hcl2 hsz2 hx2
 have hany2:=dE (P:=P) (K:=K) (tab:=WA ops.toList #[]) (fun j i=>We) ls _ F L σ (cI _ ls hls) hp.1.1 hcl (by simp) hany1
 have hany:=bJ _ ops.size _ _ _ _ hp.2 hany2
 refine wp_region_any hm ?_
 have hF:=h.AD1 (XH (ls.map (·.2.1)) F)
 have hdrew:B4 base g lam Pr N (O9 (ls.map (·.2.1)) F) L σ a w0 { w with drawn:=w.drawn+1}:=
  hF.step (w':=w.drew) (Gh.le_refl g) (fun k b hb=>rfl) (hF.rel.grow (w':=w.drew) (A8 _) (fun _ _ _=>rfl) ((Below.refl base w).drew) (fun b hb=>⟨(hF.rel.pr b hb).1,.inl hb⟩))
 exact Uw hq0 K _ _ base g lam Pr _ L σ a w0 _ hany hdrew (fun a' w' hA=>⟨rfl,FI.trans (Gh.le_refl g) ⟨A8 _,fun _ _=>rfl⟩ hA⟩)
def lin:QT→Option (List Q)
 | .done=>some []
 | .one q t=>(lin t).map (q::·)
 | .alt _ _ _=>none
theorem uR:∀(t:QT) (ops:List Q) (F:Fm) (L:Lm) (σ:AN),lin t=some ops→BR P K ops F L σ→XT P K false t F L σ
 | .done,ops,F,L,σ,h,hx=>by simp only [lin,AR] at h;subst h;exact hx
 | .one q t,ops,F,L,σ,h,hx=>by
  simp only [lin,AL] at h
  obtain ⟨l,hl,rfl⟩:=h
  exact UY (fun F L σ h=>uR t l F L σ hl h) hx
 | .alt _ _ _,ops,F,L,σ,h,_=>by simp [lin] at h
end Go.Ab
