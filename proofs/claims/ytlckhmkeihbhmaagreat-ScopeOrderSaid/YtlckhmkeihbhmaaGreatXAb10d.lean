/- Regions that draw their order, continued: where operations do not commute, every order is looked at. Regions that draw their order, continued: new local variables may be laid first. Conditions: none. -/
import Derived.Test.YtlckhmkeihbhmaaGreatXAb10b
set_option linter.unusedSimpArgs false
set_option linter.unusedVariables false
set_option maxRecDepth 4000
set_option maxHeartbeats 8000000
open Bool renaming false_eq_true→AY,and_eq_true→AP,or_eq_true→DU,not_eq_true'→B1
open Option.some renaming injEq→AJ
open List renaming all_eq_true→Ah,contains_iff_mem→A8,mem_singleton→Bd,mem_zipIdx_iff_getElem?→Oo,mem_append→A7,mem_cons→Bc,range→An
open Option renaming bind_eq_some_iff→AB,map_eq_some_iff→AD,getD_some→NK,bind_some→Ga,bind_eq_bind→AN
open Ne renaming symm→CL
open Array renaming getD_eq_getD_getElem?→C9,getElem?_eq_getElem→J7,replicate→EG
open Nat renaming le_refl→A0
namespace Go.Ab
open Go.RowKit
variable {P:Program} {base N:Nat} {g g':Gh} {Pr:Nat→Prop} {σ σ':AF} {w0 w w':World} {lam:Nat→Option Nat} {F:Fm} {L:Lm} {a:Act} {K:CV}
theorem YW {o:O} {dst:Option Nat} {K':CV} (hk:∀F L σ,K F L σ→K' F L σ) (hx:XO P dst K F L σ o):XO P dst K' F L σ o:=by
 by_cases hV:isV o=true
 · rw [aJ hV] at hx ⊢
   obtain ⟨v,h1,h2⟩:=hx
   exact ⟨v,h1,hk _ _ _ h2⟩
 · cases o<;>simp only [isV,not_true_eq_false] at hV
   case box x sh=>
    simp only [XO,Oq] at hx ⊢
    refine ⟨hx.1,?_⟩
    have hx:=hx.2
    cases dst with
    |none=>exact hx.elim
    |some d=>cases sh with
     |true=>exact fun i hi=>hk _ _ _ (hx i hi)
     |false=>exact hk _ _ _ hx
   case al z sh=>
    simp only [XO,Oq] at hx ⊢
    refine ⟨hx.1,?_⟩
    have hx:=hx.2
    cases dst with
    |none=>exact hx.elim
    |some d=>cases sh with
     |true=>exact fun i hi=>hk _ _ _ (hx i hi)
     |false=>exact hk _ _ _ hx
   case st x v n=>
    simp only [XO,XSt] at hx ⊢
    obtain ⟨h1,h2,h3,h4⟩:=hx
    refine ⟨h1,h2,h3,?_⟩
    split at h4
    · exact hk _ _ _ h4
    · exact h4.elim
   case msl e s b z l c=>
    obtain ⟨k,k',n,h1,h2,h3,h4,h5,h6⟩:=hx
    exact ⟨k,k',n,h1,h2,h3,h4,h5,fun i hi=>hk _ _ _ (h6 i hi)⟩
   case Uz e s b x y=>
    obtain ⟨n,cs,σ1,srows,h1,h2,h3,h4,h5,h6,h7⟩:=hx
    exact ⟨n,cs,σ1,srows,h1,h2,h3,fun e=>hk _ _ _ (h4 e),h5,h6,fun e t ht=>hk _ _ _ (h7 e t ht)⟩
   case trn x y=>
    obtain ⟨k,s,e,cs,σ1,h1,h2⟩:=hx
    exact ⟨k,s,e,cs,σ1,h1,fun t ht=>hk _ _ _ (h2 t ht)⟩
   case QY e s l z ps=>
    obtain ⟨cs,h1,h2⟩:=hx
    exact ⟨cs,h1,fun t ht=>hk _ _ _ (h2 t ht)⟩
   case app e s b x y=>
    rcases hx with ⟨rows,σ1,srows,h1,h2,h3,h4,h5,h6⟩|⟨rows,srows,h1,h2,h3,h4,h5,h6,h7⟩
    · exact .inl ⟨rows,σ1,srows,h1,h2,h3,h4,h5,fun t ht=>hk _ _ _ (h6 t ht)⟩
    · exact .inr ⟨rows,srows,h1,h2,h3,h4,h5,h6,hk _ _ _ h7⟩
   case call f args=>
    obtain ⟨h1,R,h2,h3⟩:=hx
    exact ⟨h1,R,h2,fun v σ' hv=>hk _ _ _ (h3 v σ' hv)⟩
   case FL x args=>
    obtain ⟨f,first,caps,h0,hb,h1,R,h2,h3⟩:=hx
    exact ⟨f,first,caps,h0,hb,h1,R,h2,fun v σ' hv=>hk _ _ _ (h3 v σ' hv)⟩
   case ex k xs=>
    simp only [XO,XEx,hV,AY,if_false] at hx ⊢
    exact ⟨hx.1,hx.2.mono fun v σ' _ hv=>hk _ _ _ hv⟩
theorem MV {q:Q} {K':CV} (hk:∀F L σ,K F L σ→K' F L σ) (hx:XQ P q K F L σ):XQ P q K' F L σ:=by
 unfold XQ at hx ⊢
 cases hc:gd F q.grd with
 |none=>rw [hc] at hx;exact hx.elim
 |some b=>
  rw [hc] at hx
  cases b
  · exact hk _ _ _ hx
  · exact YW hk hx
inductive PT where
 |done
 |one (i:Nat) (t:PT)
 |alt (i:Nat) (t r:PT)
 |lay (i:Nat) (t:PT)
inductive QT where
 |done
 |one (q:Q) (t:QT)
 |alt (q:Q) (t r:QT)
def XT (P:Program) (K:CV):Bool→QT→CV
 |false,.done=>K
 |true,.done=>fun _ _ _=>True
 |_,.one q t=>XQ P q (XT P K false t)
 |_,.alt q t r=>fun F L σ=>XQ P q (XT P K false t) F L σ∧XT P K true r F L σ
def PT.depth:PT→Nat
 | .done=>0
 | .one _ t=>t.depth+1
 | .alt _ t r=>max (t.depth+1) r.depth
 | .lay _ t=>t.depth+1
def Qx (qs:List Q):PT→Option QT
 | .done=>some .done
 | .one i t=>(qs[i]?).bind fun q=>(Qx qs t).map (.one q ·)
 | .alt i t r=>(qs[i]?).bind fun q=>(Qx qs t).bind fun t'=>(Qx qs r).map (.alt q t' ·)
 | .lay i t=>(qs[i]?).bind fun q=>(Qx qs t).map (.one q ·)
def K3 (ops:Array Oper) (tab:Array Nat) (qs:List Q):PT→Array Bool→Option (List Nat)→Bool
 | .done,listed,none=>(Region.ready .any ops listed).isEmpty
 | .done,listed,some l=>(Region.ready .any ops listed).all (l.contains ·)
 | .one i t,listed,none=>(Region.ready .any ops listed).contains i&&(Region.ready .any ops listed==[i]||TM tab qs listed i)&&K3 ops tab qs t (listed.setIfInBounds i true) none
 | .one i t,listed,some l=>(Region.ready .any ops listed).contains i&&(Region.ready .any ops listed).all (fun j=>j==i||l.contains j)&&K3 ops tab qs t (listed.setIfInBounds i true) none
 | .alt i t r,listed,e=>(Region.ready .any ops listed).contains i&&K3 ops tab qs t (listed.setIfInBounds i true) none&&K3 ops tab qs r listed (some (i::e.getD []))
 | .lay _ _,_,_=>false
theorem TR {ops:Array Oper} {tab:Array Nat} (htab:∀j i,(tab.getD j 0).testBit i=true→Anc ops j i) {qs:List Q}:∀(t:PT) (qt:QT),Qx qs t=some qt→
 (∀n listed F L σ,t.depth≤n→K3 ops tab qs t listed none=true→HZ ops listed→listed.size=ops.size→XT P K false qt F L σ→RP P ops qs K n listed F L σ)∧
 (∀n listed l F L σ,t.depth≤n+1→K3 ops tab qs t listed (some l)=true→HZ ops listed→listed.size=ops.size→XT P K true qt F L σ→
   ∀j∈Region.ready .any ops listed,j ∉ l→∃q,qs[j]?=some q∧XQ P q (RP P ops qs K n (listed.setIfInBounds j true)) F L σ)
 | .done,qt,hp=>by
  simp only [Qx,AJ] at hp;subst hp
  refine ⟨fun n listed F L σ _ hp _ _ hx=>?_,fun n listed l F L σ _ hp _ _ _ j hj hjl=>?_⟩
  · simp only [K3,List.isEmpty_iff] at hp
    cases n with
    |zero=>exact ⟨hp,hx⟩
    |succ n=>exact ⟨fun _=>hx,fun i hi=>by rw [hp] at hi;cases hi⟩
  · simp only [K3,Ah,A8] at hp
    exact absurd (hp j hj) hjl
 | .one i t,qt,hp=>by
  simp only [Qx,AB,AD] at hp
  obtain ⟨q,hq,t',ht',rfl⟩:=hp
  obtain ⟨ih,_⟩:=TR htab t t' ht'
  refine ⟨fun n listed F L σ hd hp hcl hsz hx=>?_,fun n listed l F L σ hd hp hcl hsz hx j hj hjl=>?_⟩
  · simp only [PT.depth] at hd
    obtain ⟨m,rfl⟩:∃m,n=m+1:=⟨n - 1,by omega⟩
    simp only [K3,AP,DU,A8,beq_iff_eq] at hp
    obtain ⟨⟨hr,hok⟩,hrest⟩:=hp
    have hx:XQ P q (XT P K false t') F L σ:=hx
    have ih':=fun F L σ=>ih m (listed.setIfInBounds i true) F L σ (by omega) hrest (hcl.set hr) (by simpa using hsz)
    rcases hok with hok|hok
    · refine ⟨fun h=>(by rw [h] at hr;cases hr),fun j hj=>?_⟩
      rw [hok] at hj
      simp only [Bd] at hj
      subst hj
      exact ⟨_,hq,MV (fun F L σ h=>ih' F L σ h) hx⟩
    · unfold TM at hok
      rw [hq] at hok
      simp only [AP,Ah] at hok
      obtain ⟨v,hy,hk⟩:=(dZ hok.1 _).1 hx
      refine Ut htab hq hok.1 m listed F L σ v hcl hsz (fun j qj hj hji hun=>?_) hr hy (ih' _ _ _ hk)
      have hmem:(qj,j)∈qs.zipIdx:=by
       rw [Oo];exact hj
      have:=hok.2 (qj,j) hmem
      simp only [DU,beq_iff_eq] at this
      rcases this with (h|h)|h
      · exact absurd h hji
      · rw [hun] at h;cases h
      · exact h
  · simp only [PT.depth] at hd
    simp only [K3,AP,Ah,A8,DU,beq_iff_eq] at hp
    obtain ⟨⟨hr,hall⟩,hrest⟩:=hp
    have hx:XQ P q (XT P K false t') F L σ:=hx
    rcases hall j hj with rfl|h
    · exact ⟨q,hq,MV (fun F L σ h=>ih n _ F L σ (by omega) hrest (hcl.set hr) (by simpa using hsz) h) hx⟩
    · exact absurd h hjl
 | .alt i t r,qt,hp=>by
  simp only [Qx,AB,AD] at hp
  obtain ⟨q,hq,t',ht',r',hr',rfl⟩:=hp
  obtain ⟨ih,_⟩:=TR htab t t' ht'
  obtain ⟨_,ihr⟩:=TR htab r r' hr'
  refine ⟨fun n listed F L σ hd hp hcl hsz hx=>?_,fun n listed l F L σ hd hp hcl hsz hx j hj hjl=>?_⟩
  · simp only [PT.depth] at hd
    obtain ⟨m,rfl⟩:∃m,n=m+1:=⟨n - 1,by omega⟩
    simp only [K3,AP,A8,Option.getD_none] at hp
    obtain ⟨⟨hr,hrest⟩,hp2⟩:=hp
    obtain ⟨hx1,hx2⟩:=hx
    refine ⟨fun h=>(by rw [h] at hr;cases hr),fun j hj=>?_⟩
    by_cases hji:j=i
    · subst hji
      exact ⟨q,hq,MV (fun F L σ h=>ih m _ F L σ (by omega) hrest (hcl.set hr) (by simpa using hsz) h) hx1⟩
    · exact ihr m listed [i] F L σ (by omega) hp2 hcl hsz hx2 j hj (by simpa using hji)
  · simp only [PT.depth] at hd
    simp only [K3,AP,A8,NK] at hp
    obtain ⟨⟨hr,hrest⟩,hp2⟩:=hp
    obtain ⟨hx1,hx2⟩:=hx
    by_cases hji:j=i
    · subst hji
      exact ⟨q,hq,MV (fun F L σ h=>ih n _ F L σ (by omega) hrest (hcl.set hr) (by simpa using hsz) h) hx1⟩
    · exact ihr n listed (i::l) F L σ (by omega) hp2 hcl hsz hx2 j hj (by simp [hji,hjl])
 | .lay i t,qt,hp=>⟨fun n listed F L σ _ hp=>by simp [K3] at hp,fun n listed l F L σ _ hp=>by simp [K3] at hp⟩
end Go.Ab
namespace Go.Ab
open Go.RowKit
variable {P:Program} {base N:Nat} {g g':Gh} {Pr:Nat→Prop} {σ σ':AF} {w0 w w':World} {lam:Nat→Option Nat} {F:Fm} {L:Lm} {a:Act} {K:CV} {d:Nat} {z:List AV}
theorem VR.BO {x:AV} {v:Value} (h:VR g x v) (d:Nat):x.BO d=false:=by cases h<;>rfl
theorem Rn {x:AV} (h:x.BY=true) (d:Nat):x.BO d=false:=by cases x<;>first|rfl|(cases h;done)
theorem Xb {x:AV} (h:x.BT=true) (d:Nat):x.BO d=false:=by cases x<;>first|rfl|(cases h;done)
theorem AL.BO {f:FuncId} {args:List AV} {Q:AV→AF→Prop} (h:AL P f args σ Q) (d:Nat):AL P f args σ (fun v σ'=>Q v σ'∧v.BO d=false):=
 fun base g Pr w0 w vs hr hv=>(h base g Pr w0 w vs hr hv).mono fun _ _ ⟨v,av,g',σ',a,b,c,d',e,q⟩=>⟨v,av,g',σ',a,b,c,d',e,q,b.BO d⟩
def Off (d:Nat) (F:Fm):Prop:=∀s,(F s).BO d=false
theorem Off.Ar (h:Off d F) {dst:Option Nat} {v:AV} (hv:v.BO d=false):Off d (Ar dst v F):=by
 intro s
 cases dst with
 |none=>exact h s
 |some k=>
  simp only [Ab.Ar,Ab.put]
  split
  · exact hv
  · exact h s
theorem Off.Cu (h:Off d F) (k:Nat):Off d (Cu k F):=by
 intro s
 simp only [Ab.Cu]
 split
 · rfl
 · exact h s
theorem Vw (d:Nat) (F:Fm):Off d (Cu d F):=by
 intro s
 simp only [Cu]
 split
 · rfl
 · rename_i h;simpa using h
def cOk:X→Bool
 | .t _=>true
 | .c v=>v.BY
theorem O7 (h:Off d F) {x:X} (hx:cOk x=true):(xv F x).BO d=false:=by
 cases x with
 |t n=>exact h n
 |c v=>exact Rn hx d
def Oc:O→Bool
 | .mv x| .fld x _| .ld x _| .ldl x _| .nck x=>cOk x
 | .pick _ x y=>cOk x&&cOk y
 | .st x _ _=>cOk x
 |_=>true
theorem Wo {k:Nat} (h:k≠d) (z:List AV) (L:Lm):Az d z L k=L k:=by simp [Az,h]
theorem iY {p:AV} (hp:p.BO d=false) (n:Option Nat):ldA (Az d z L) σ p n=ldA L σ p n:=by
 cases p<;>try rfl
 · rename_i dx;cases dx<;>rfl
 rename_i k o
 have:k≠d:=by simpa [AV.BO] using hp
 simp [ldA,Wo this]
theorem fM {p:AV} (hp:p.BO d=false) (n:Option Nat):Wj (Az d z L) p n=Wj L p n:=by
 cases p<;>try rfl
 rename_i k o
 have:k≠d:=by simpa [AV.BO] using hp
 simp [Wj,Wo this]
theorem l9 (h:Off d F) {o:O} (hc:Oc o=true):pv F (Az d z L) σ o=pv F L σ o:=by
 cases o<;>try rfl
 case ld x n=>exact iY (O7 h hc) n
 case ldl x n=>exact fM (O7 h hc) n
theorem Oh {cs:List AV} {o:Nat} {n:Option Nat} {v:AV} (h:rdC cs o n=some v):v.BO d=false:=by
 cases n with
 |none=>
  simp only [rdC,AB] at h
  obtain ⟨v0,_,h⟩:=h
  obtain ⟨rfl,hc⟩:=Ps h
  exact Xb hc d
 |some n=>
  simp only [rdC] at h
  split at h
  · cases h;rfl
  · cases h
theorem fF {op:BinOp} {k:IntKind} {x y:Int} {v:AV} (h:bW op k x y=some v):v.BO d=false:=by
 unfold bW at h
 split at h<;>first|(cases h;rfl)|(split at h<;>first|(cases h;done)|(cases h;rfl))|(cases h;done)
theorem g6 {op:BinOp} {x y:List UInt8} {v:AV} (h:Zd op x y=some v):v.BO d=false:=by
 unfold Zd at h
 split at h<;>first|(cases h;rfl)|(split at h<;>first|(cases h;done)|(cases h;rfl))|(cases h;done)
theorem Zx {b:Bool} {x y v:AV} (h:mmA b x y=some v):v.BO d=false:=by
 unfold mmA at h
 split at h
 · split at h
   · cases h;rfl
   · cases h
 · cases h
theorem Wf {rows:List (List DV)} {m:Int} {n:Nat} {v:AV} (h:ixR rows m n=some v):v.BO d=false:=by
 unfold ixR at h
 split at h
 · simp only [AB] at h
   obtain ⟨r,_,h⟩:=h
   split at h
   · cases h;rfl
   · cases h
 · cases h
theorem iS {k:EK} {args:List AV} {v:AV} (h:exP k args=some v):v.BO d=false:=by
 obtain ⟨_,h⟩:=TK h
 unfold P5 at h
 split at h
 · cases h;rfl
 · simp only [AD] at h;obtain ⟨_,_,rfl⟩:=h;rfl
 · simp only [AD] at h;obtain ⟨_,_,rfl⟩:=h;rfl
 · cases h
theorem jS (h:Off d F) {o:O} (hc:Oc o=true) {v:AV} (hv:pv F L σ o=some v):v.BO d=false:=by
 cases o<;>simp only [pv] at hv<;>try (cases hv;done)
 case mv x=>cases hv;exact O7 h hc
 case ex k xs=>exact iS hv
 case pick c x y=>
  simp only [Oc,AP] at hc
  unfold Xj at hv
  split at hv
  · cases hv;split
    · exact O7 h hc.1
    · exact O7 h hc.2
  · cases hv
 case fld x off=>
  have hx:=O7 h hc
  generalize xv F x=p at hv hx
  cases p<;>simp only [Yp] at hv<;>try (cases hv;done)
  · rename_i dx;cases dx<;>simp only at hv<;>first|(cases hv;done)|(cases hv;rfl)
  · cases hv;exact hx
  · cases hv;rfl
  · cases hv;rfl
 case ld x n=>
  generalize xv F x=p at hv
  cases p<;>simp only [ldA] at hv<;>try (cases hv;done)
  · rename_i dx;cases dx<;>simp only at hv<;>first|(cases hv;done)|exact Oh hv
  · simp only [AB] at hv;obtain ⟨_,_,hv⟩:=hv;exact Oh hv
  · simp only [AB] at hv;obtain ⟨_,_,hv⟩:=hv;exact Oh hv
  · exact Oh hv
 case ldl x n=>
  generalize xv F x=p at hv
  cases p<;>simp only [Wj] at hv<;>try (cases hv;done)
  simp only [AB] at hv;obtain ⟨_,_,hv⟩:=hv;exact Oh hv
 case ix x i n=>
  unfold ixA at hv
  split at hv
  · split at hv
    · cases hv;rfl
    · cases hv
  · split at hv
    · cases hv;rfl
    · cases hv
  · exact Wf hv
  · exact Wf hv
  · exact Wf hv
  · cases hv
 case L7 x i=>
  unfold Uk at hv
  split at hv
  · split at hv
    · simp only [AD] at hv;obtain ⟨_,_,rfl⟩:=hv;rfl
    · cases hv
  · cases hv
 case len x=>
  unfold NU at hv
  split at hv<;>first|(cases hv;rfl)|(cases hv;done)
 case Gn x=>
  unfold WG at hv
  split at hv<;>first|(cases hv;rfl)|(cases hv;done)
 case bin op x y=>
  unfold aQ at hv
  split at hv
  · split at hv
    · exact fF hv
    · cases hv
  · exact g6 hv
  · cases hv
 case aS op x y=>
  unfold Vh at hv
  split at hv<;>first|(cases hv;rfl)|(cases hv;done)
 case un op x=>
  unfold unA at hv
  split at hv<;>first|(cases hv;rfl)|(cases hv;done)
 case conv k x=>
  unfold Vo at hv
  split at hv<;>first|(cases hv;rfl)|(cases hv;done)
 case bld z ps=>simp only [AD] at hv;obtain ⟨_,_,rfl⟩:=hv;rfl
 case bsl s n z ps=>simp only [AD] at hv;obtain ⟨_,_,rfl⟩:=hv;rfl
 case mkf f x y=>
  split at hv
  · cases hv;rfl
  · cases hv
 case ext x i=>
  unfold bI at hv
  split at hv
  · simp only [AB] at hv
    obtain ⟨v0,_,hv⟩:=hv
    obtain ⟨rfl,hn⟩:=UP hv
    exact Rn hn d
  · cases hv
 case nck x=>
  have hx:=O7 h hc
  generalize xv F x=p at hv hx
  cases p<;>simp only [fY] at hv<;>try (cases hv;done)
  · rename_i dx;cases dx<;>simp only at hv<;>first|(cases hv;done)|(cases hv;rfl)
  · cases hv;exact hx
  · cases hv;rfl
  · cases hv;rfl
 case mm b x y=>exact Zx hv
 case fd x off n=>
  generalize xv F x=p at hv
  cases p<;>simp only [fdA] at hv<;>try (cases hv;done)
  exact Oh hv
 case ssl x lo hi=>
  unfold OZ at hv
  split at hv
  · simp only [AD] at hv;obtain ⟨_,_,rfl⟩:=hv;rfl
  · cases hv
 case sls x lo hi mx n=>
  unfold dG at hv
  split at hv
  · split at hv
    · cases hv;rfl
    · cases hv
  · simp only [AB] at hv
    obtain ⟨_,_,hv⟩:=hv
    split at hv
    · cases hv;rfl
    · cases hv
  · simp only [AB] at hv
    obtain ⟨_,_,hv⟩:=hv
    split at hv
    · cases hv;rfl
    · cases hv
  simp only [AB] at hv
  obtain ⟨rows,_,hv⟩:=hv
  unfold Z8 at hv
  split at hv
  · simp only [AB] at hv
    obtain ⟨b,_,hv⟩:=hv
    split at hv
    · cases hv;rfl
    · split at hv
      · cases hv;rfl
      · cases hv
    · cases hv
  · cases hv
 case Xm ne x=>
  unfold Vz at hv
  split at hv<;>first|(cases hv;rfl)|(cases hv;done)
 case YJ ne n x y=>
  unfold WI at hv
  split at hv
  · split at hv
    · simp only [AD] at hv;obtain ⟨_,_,rfl⟩:=hv;rfl
    · cases hv
  · cases hv
 case mm3 b x y z=>
  simp only [AB] at hv
  obtain ⟨_,_,hv⟩:=hv
  exact Zx hv
 case aU x=>simp only [AD] at hv;obtain ⟨_,_,rfl⟩:=hv;rfl
theorem Dv {dst:Option Nat} (h:dst≠some d) (v x:AV) (F:Fm):Ar dst v (put d x F)=put d x (Ar dst v F):=
 Ru (d:=dst) (e:=some d) (fun k hk he=>h (by rw [hk,he])) v x F
theorem ON {k:Nat} (h:d≠k) (F:Fm):Cu k (put d (.lp d 0) F)=put d (.lp d 0) (Cu k F):=by
 funext s
 simp only [Cu,put]
 by_cases e:s=d
 · subst e;simp [AV.BO,h]
 · simp [e]
theorem Rt {k:Nat} (h:k≠d) (x y:List AV) (L:Lm):Az k x (Az d y L)=Az d y (Az k x L):=by
 funext s
 simp only [Az]
 by_cases e:s=k
 · subst e;simp [h]
 · simp [e]
theorem k6 {o:O} {dst:Option Nat} (hN:Off d F) (hc:Oc o=true) (hl:∀s∈Hf o,s≠d) (hd:dst≠some d) (hx:XO P dst K (put d (.lp d 0) F) (Az d z L) σ o):
 XO P dst (fun F' L' σ'=>Off d F'∧K (put d (.lp d 0) F') (Az d z L') σ') F L σ o:=by
 have hF:∀s∈Hf o,put d (.lp d 0) F s=F s:=fun s hs=>by simp [put,hl s hs]
 by_cases hV:isV o=true
 · rw [aJ hV] at hx ⊢
   obtain ⟨u,h1,h2⟩:=hx
   have h1:=TZ hF h1
   have h3:Yv P F L σ u o∧u.BO d=false:=by
    cases o<;>try (cases hV;done)
    case S1 f args=>exact ⟨h1,Rn h1.2.1 d⟩
    all_goals
     simp only [Yv] at h1 ⊢
     rw [l9 hN hc] at h1
     exact ⟨h1,jS hN hc h1⟩
   refine ⟨u,h3.1,hN.Ar h3.2,?_⟩
   rw [← Dv hd];exact h2
 · cases o<;>simp only [isV,not_true_eq_false] at hV<;>simp only [Hf,A7] at hF
   case box x sh=>
    simp only [XO,Oq] at hx ⊢
    rw [← BB hF]
    refine ⟨hx.1,?_⟩
    have hx:=hx.2
    cases dst with
    |none=>exact hx.elim
    |some e=>
     have hne:d≠e:=fun h=>hd (by rw [h])
     cases sh with
     |true=>exact fun i hi=>⟨hN.Ar (dst:=some e) (v:= .gp i 0) rfl,by have:=hx i hi;rw [show put e (.gp i 0) (put d (.lp d 0) F)=put d (.lp d 0) (put e (.gp i 0) F) from Dv (dst:=some e) hd _ _ _] at this;exact this⟩
     |false=>
      refine ⟨(hN.Cu e).Ar (dst:=some e) (v:= .lp e 0) (by simp [AV.BO];exact CL hne),?_⟩
      have hx:K (put e (.lp e 0) (Cu e (put d (.lp d 0) F))) (Az e (xv (put d (.lp d 0) F) x).cells (Az d z L)) σ:=hx
      rw [ON hne,Rt (CL hne),show put e (.lp e 0) (put d (.lp d 0) (Cu e F))=put d (.lp d 0) (put e (.lp e 0) (Cu e F)) from Dv (dst:=some e) hd _ _ _] at hx
      exact hx
   case al y sh=>
    simp only [XO,Oq] at hx ⊢
    refine ⟨hx.1,?_⟩
    have hx:=hx.2
    cases dst with
    |none=>exact hx.elim
    |some e=>
     have hne:d≠e:=fun h=>hd (by rw [h])
     cases sh with
     |true=>exact fun i hi=>⟨hN.Ar (dst:=some e) (v:= .gp i 0) rfl,by have:=hx i hi;rw [show put e (.gp i 0) (put d (.lp d 0) F)=put d (.lp d 0) (put e (.gp i 0) F) from Dv (dst:=some e) hd _ _ _] at this;exact this⟩
     |false=>
      refine ⟨(hN.Cu e).Ar (dst:=some e) (v:= .lp e 0) (by simp [AV.BO];exact CL hne),?_⟩
      have hx:K (put e (.lp e 0) (Cu e (put d (.lp d 0) F))) (Az e y (Az d z L)) σ:=hx
      rw [ON hne,Rt (CL hne),show put e (.lp e 0) (put d (.lp d 0) (Cu e F))=put d (.lp d 0) (put e (.lp e 0) (Cu e F)) from Dv (dst:=some e) hd _ _ _] at hx
      exact hx
   case st x y n=>
    simp only [XO,XSt] at hx ⊢
    rw [BB (F:=put d (.lp d 0) F) (F':=F) (fun s hs=>hF s (.inl hs)),BB (F:=put d (.lp d 0) F) (F':=F) (fun s hs=>hF s (.inr hs))] at hx
    obtain ⟨h1,h2,h3,h4⟩:=hx
    refine ⟨h1,h2,h3,?_⟩
    have hp:=O7 hN hc
    generalize xv F x=p at hp h4
    cases p<;>simp only [stA] at h4 ⊢<;>try (exact h4.elim)
    · rename_i k o2
      have hk:k≠d:=by simpa [AV.BO] using hp
      rw [Wo hk] at h4
      cases hL:L k with
      |none=>rw [hL] at h4;exact h4.elim
      |some cs=>
       rw [hL] at h4
       simp only [Ga] at h4 ⊢
       by_cases hle:o2+(xv F y).cells.length≤cs.length
       · rw [if_pos hle] at h4 ⊢
         refine ⟨hN,?_⟩
         have h4:K (put d (.lp d 0) F) (Az k (wr cs o2 (xv F y).cells) (Az d z L)) σ:=h4
         rw [Rt hk] at h4;exact h4
       · rw [if_neg hle] at h4;exact h4.elim
    · rename_i i o2
      cases hb:σ.blk i with
      |none=>rw [hb] at h4;exact h4.elim
      |some cs=>
       rw [hb] at h4
       simp only [Ga] at h4 ⊢
       by_cases hle:o2+(xv F y).cells.length≤cs.length
       · rw [if_pos hle] at h4 ⊢;exact ⟨hN,h4⟩
       · rw [if_neg hle] at h4;exact h4.elim
   case msl e s b y l c=>
    obtain ⟨k,k',n,h1,h2,h3,h4,h5,h6⟩:=hx
    refine ⟨k,k',n,by rw [← BB (fun s hs=>hF s (.inl hs))];exact h1,by rw [← BB (fun s hs=>hF s (.inr hs))];exact h2,h3,h4,h5,fun i hi=>⟨hN.Ar rfl,?_⟩⟩
    rw [← Dv hd];exact h6 i hi
   case app e s b x y=>
    rcases hx with ⟨rows,σ1,srows,h1,h2,h3,h4,h5,h6⟩|⟨rows,srows,h1,h2,h3,h4,h5,h6,h7⟩
    · refine .inl ⟨rows,σ1,srows,by rw [← BB (fun s hs=>hF s (.inl hs))];exact h1,by rw [← BB (fun s hs=>hF s (.inr hs))];exact h2,h3,h4,h5,fun t ht=>⟨hN.Ar rfl,?_⟩⟩
      rw [← Dv hd];exact h6 t ht
    · refine .inr ⟨rows,srows,by rw [← BB (fun s hs=>hF s (.inl hs))];exact h1,by rw [← BB (fun s hs=>hF s (.inr hs))];exact h2,h3,h4,h5,h6,⟨hN.Ar rfl,?_⟩⟩
      rw [← Dv hd];exact h7
   case Uz e s b x y=>
    obtain ⟨n,cs,σ1,srows,h1,h2,h3,h4,h5,h6,h7⟩:=hx
    refine ⟨n,cs,σ1,srows,by rw [← BB (fun s hs=>hF s (.inl hs))];exact h1,by rw [← BB (fun s hs=>hF s (.inr hs))];exact h2,h3,fun e=>⟨hN.Ar ?_,?_⟩,h5,h6,fun e t ht=>⟨hN.Ar rfl,?_⟩⟩
    · unfold Ku at h1
      rw [← BB (fun s hs=>hF s (.inl hs))]
      generalize xv _ x=xx at h1
      cases xx<;>first|rfl|(cases h1;done)
    · rw [← Dv hd,← BB (fun s hs=>hF s (.inl hs))];exact h4 e
    · rw [← Dv hd];exact h7 e t ht
   case trn x y=>
    obtain ⟨k,s,e,cs,σ1,h1,h2⟩:=hx
    refine ⟨k,s,e,cs,σ1,by rw [← BB (fun s hs=>hF s (.inl hs)),← BB (fun s hs=>hF s (.inr hs))];exact h1,fun t ht=>⟨hN.Ar rfl,?_⟩⟩
    rw [← Dv hd];exact h2 t ht
   case QY e s l y ps=>
    obtain ⟨cs,h1,h2⟩:=hx
    refine ⟨cs,by rw [← LA _ _ hF];exact h1,fun t ht=>⟨hN.Ar rfl,?_⟩⟩
    rw [← Dv hd];exact h2 t ht
   case call f args=>
    obtain ⟨h1,R,h2,h3⟩:=hx
    rw [F8 hF] at h1 h2
    refine ⟨h1,_,h2.BO d,fun u σ' hv=>⟨hN.Ar hv.2,?_⟩⟩
    rw [← Dv hd];exact h3 u σ' hv.1
   case FL x args=>
    obtain ⟨f,first,caps,h0,hb,h1,R,h2,h3⟩:=hx
    rw [F8 (fun s hs=>hF s (.inr hs))] at h1 h2
    refine ⟨f,first,caps,by rw [← BB (fun s hs=>hF s (.inl hs))];exact h0,hb,h1,_,h2.BO d,fun u σ' hv=>⟨hN.Ar hv.2,?_⟩⟩
    rw [← Dv hd];exact h3 u σ' hv.1
   case ex k xs=>
    simp only [XO,XEx,hV,AY,if_false] at hx ⊢
    rw [F8 hF] at hx
    refine ⟨hx.1,hx.2.mono fun u σ' hu hv=>⟨hN.Ar (hu d),?_⟩⟩
    rw [← Dv hd];exact hv
theorem k8 {q:Q} (hN:Off d F) (hc:Oc q.o=true) (hl:∀s∈q.K0,s≠d) (hd:q.dst≠some d) (hx:XQ P q K (put d (.lp d 0) F) (Az d z L) σ):
 XQ P q (fun F' L' σ'=>Off d F'∧K (put d (.lp d 0) F') (Az d z L') σ') F L σ:=by
 have h1:∀s∈Hf q.o,s≠d:=fun s hs=>hl s (by simp [Q.K0,hs])
 unfold XQ at hx ⊢
 rw [Tw (F:=put d (.lp d 0) F) (F':=F) (fun s hs=>by simp [put,hl s hs])] at hx
 cases hc2:gd F q.grd with
 |none=>rw [hc2] at hx;exact hx.elim
 |some b=>
  rw [hc2] at hx
  cases b
  · have hx:K (Ar q.dst (.tup []) (put d (.lp d 0) F)) (Az d z L) σ:=hx
    rw [Dv hd] at hx
    exact ⟨hN.Ar rfl,hx⟩
  · exact k6 hN hc h1 hd hx
theorem c9 (h:Off d F):Cu d F=F:=by
 funext s
 simp [Cu,h s]
def kU (tab:Array Nat) (qs:List Q) (i d:Nat):Bool:=
 qs.zipIdx.all fun (qj,j)=>j==i||(tab.getD j 0).testBit i||(Oc qj.o&& !qj.K0.contains d&&qj.dst != some d)
theorem j0 {ops:Array Oper} {tab:Array Nat} (htab:∀j i,(tab.getD j 0).testBit i=true→Anc ops j i) {qs:List Q} {i:Nat} (hi:qs[i]?=some ⟨some d,.al z false,none⟩) (hz:Ad z=true) (hlay:kU tab qs i d=true):
 ∀(fuel:Nat) (listed:Array Bool) (F:Fm) (L:Lm) (σ:AF),HZ ops listed→listed.size=ops.size→i∈Region.ready .any ops listed→Off d F→
  RP P ops qs K fuel (listed.setIfInBounds i true) (put d (.lp d 0) F) (Az d z L) σ→RP P ops qs K (fuel+1) listed F L σ:=by
 have hself:∀(K2:CV) (F:Fm) (L:Lm) (σ:AF),Off d F→K2 (put d (.lp d 0) F) (Az d z L) σ→XQ P ⟨some d,.al z false,none⟩ K2 F L σ:=fun K2 F L σ hN h=>by
  show Oq z false (some d) K2 F L σ
  refine ⟨hz,?_⟩
  show K2 (put d (.lp d 0) (Cu d F)) (Az d z L) σ
  rw [c9 hN];exact h
 intro fuel
 induction fuel with
 |zero=>
  intro listed F L σ hcl hsz hr hN H
  refine ⟨fun h=>(by rw [h] at hr;cases hr),fun j hj=>?_⟩
  by_cases hji:i=j
  · subst hji;exact ⟨_,hi,hself _ _ _ _ hN H⟩
  · have:=MG hj hji
    rw [H.1] at this;cases this
 |succ fuel ih=>
  intro listed F L σ hcl hsz hr hN H
  refine ⟨fun h=>(by rw [h] at hr;cases hr),fun j hj=>?_⟩
  by_cases hji:i=j
  · subst hji;exact ⟨_,hi,hself _ _ _ _ hN H⟩
  · obtain ⟨qj,hqj,hxj⟩:=H.2 j (MG hj hji)
    obtain ⟨hjlt,hjun,oj,hoj,hjall⟩:=Ih.1 hj
    have hiun:=(Ih.1 hr).2.1
    have hilt:=(Ih.1 hr).1
    have hmem:(qj,j)∈qs.zipIdx:=by rw [Oo];exact hqj
    have hb:=Ah.1 hlay (qj,j) hmem
    simp only [DU,beq_iff_eq,AP,B1,bne_iff_ne] at hb
    rcases hb with (hb|hanc)|⟨⟨hc,hlk⟩,hdst⟩
    · exact absurd hb.symm hji
    · have h1:=T2 hcl (htab j i hanc) (fun o ho=>by rw [hoj] at ho;cases ho;exact hjall)
      rw [C9,J7 (by omega)] at h1 hiun
      simp at h1 hiun
      rw [h1] at hiun;cases hiun
    · refine ⟨qj,hqj,?_⟩
      have hlk':∀s∈qj.K0,s≠d:=fun s hs he=>by subst he;rw [← Bool.not_eq_true,A8] at hlk;exact hlk hs
      have hcomm:(listed.setIfInBounds i true).setIfInBounds j true=(listed.setIfInBounds j true).setIfInBounds i true:=Array.setIfInBounds_comm _ _ hji
      refine MV (fun F' L' σ' h=>?_) (k8 hN hc hlk' hdst hxj)
      refine ih _ F' L' σ' (hcl.set hj) (by simpa using hsz) (MG hr (CL hji)) h.1 ?_
      rw [← hcomm];exact h.2
def L5:List Nat→Fm→Fm
 |[],F=>F
 |d::ds,F=>L5 ds (Cu d F)
theorem S2:∀(ds:List Nat) (F:Fm) (s:Nat),L5 ds F s=F s∨L5 ds F s= .undef
 |[],F,s=>.inl rfl
 |d::ds,F,s=>by
  rcases S2 ds (Cu d F) s with h|h
  · rw [L5,h];simp only [Cu];split<;>simp
  · exact .inr h
theorem UW:∀(ds:List Nat) (F:Fm) (d:Nat),(d∈ds∨Off d F)→Off d (L5 ds F)
 |[],F,d,h=>by
  rcases h with h|h
  · cases h
  · exact h
 |e::ds,F,d,h=>by
  refine UW ds (Cu e F) d ?_
  rcases h with h|h
  · cases h with
    |head=>exact .inr (Vw _ F)
    |tail _ h=>exact .inl h
  · exact .inr (h.Cu e)
theorem UX:∀(ds:List Nat) (F:Fm) (d:Nat),d ∉ ds→L5 ds (put d (.lp d 0) F)=put d (.lp d 0) (L5 ds F)
 |[],F,d,_=>rfl
 |e::ds,F,d,h=>by
  simp only [Bc,not_or] at h
  simp only [L5]
  rw [ON h.1,UX ds _ d h.2]
def MO:PT→List Nat×PT
 | .lay i t=>(i::(MO t).1,(MO t).2)
 |t=>([],t)
def fL (qs:List Q):List Nat→Option (List (Nat×Nat×List AV))
 |[]=>some []
 |i::l=>match qs[i]? with
  |some ⟨some d,.al z false,none⟩=>if Ad z then (fL qs l).map ((i,d,z)::·) else none
  |_=>none
def Rj (ops:Array Oper) (tab:Array Nat) (qs:List Q):List (Nat×Nat×List AV)→Array Bool→Bool
 |[],_=>true
 |(i,d,_)::r,listed=>(Region.ready .any ops listed).contains i&&kU tab qs i d&& !(r.map (·.2.1)).contains d&&Rj ops tab qs r (listed.setIfInBounds i true)
def Uh:List Nat→Array Bool→Array Bool
 |[],a=>a
 |i::l,a=>Uh l (a.setIfInBounds i true)
def lV:List (Nat×Nat×List AV)→Fm→Fm
 |[],F=>F
 |(_,d,_)::r,F=>lV r (put d (.lp d 0) (Cu d F))
def lW:List (Nat×Nat×List AV)→Lm→Lm
 |[],L=>L
 |(_,d,z)::r,L=>lW r (Az d z L)
theorem WN {ops:Array Oper} {tab:Array Nat} (htab:∀j i,(tab.getD j 0).testBit i=true→Anc ops j i) {qs:List Q} {n:Nat}:∀(ls:List (Nat×Nat×List AV)) (listed:Array Bool) (F:Fm) (L:Lm) (σ:AF),
 (∀x∈ls,qs[x.1]?=some ⟨some x.2.1,.al x.2.2 false,none⟩∧Ad x.2.2=true)→Rj ops tab qs ls listed=true→HZ ops listed→listed.size=ops.size→
 RP P ops qs K n (Uh (ls.map (·.1)) listed) (lV ls F) (lW ls L) σ→RP P ops qs K (n+ls.length) listed (L5 (ls.map (·.2.1)) F) L σ
 |[],listed,F,L,σ,_,_,_,_,h=>h
 |(i,d,z)::r,listed,F,L,σ,hq,hok,hcl,hsz,h=>by
  simp only [Rj,AP,A8,B1] at hok
  obtain ⟨⟨⟨hr,hlay⟩,hnd⟩,hrest⟩:=hok
  have hnd':d ∉ r.map (·.2.1):=fun hm=>by rw [← Bool.not_eq_true,A8] at hnd;exact hnd hm
  obtain ⟨hi,hz⟩:=hq (i,d,z) (by simp)
  have ih:=WN htab (n:=n) r (listed.setIfInBounds i true) (put d (.lp d 0) (Cu d F)) (Az d z L) σ (fun x hx=>hq x (by simp [hx])) hrest (hcl.set hr) (by simpa using hsz) h
  rw [UX _ _ _ hnd'] at ih
  exact j0 htab hi hz hlay (n+r.length) listed _ L σ hcl hsz hr (UW (r.map (·.2.1)) (Cu d F) d (.inr (Vw d F))) ih
theorem Ph {ops:Array Oper} {tab:Array Nat} {qs:List Q}:∀(ls:List (Nat×Nat×List AV)) (listed:Array Bool),Rj ops tab qs ls listed=true→HZ ops listed→listed.size=ops.size→HZ ops (Uh (ls.map (·.1)) listed)∧(Uh (ls.map (·.1)) listed).size=ops.size
 |[],listed,_,hc,hs=>⟨hc,hs⟩
 |(i,d,z)::r,listed,hok,hcl,hsz=>by
  simp only [Rj,AP,A8] at hok
  exact Ph r _ hok.2 (hcl.set hok.1.1.1) (by simpa using hsz)
def aE (ls:List (Nat×Nat×List AV)) (t:QT):QT:=ls.foldr (fun x acc=>.one ⟨some x.2.1,.al x.2.2 false,none⟩ acc) t
theorem Xk:∀(ls:List (Nat×Nat×List AV)) (t:QT) (F:Fm) (L:Lm),XT P K false (aE ls t) F L σ→XT P K false t (lV ls F) (lW ls L) σ
 |[],t,F,L,h=>h
 |(i,d,z)::r,t,F,L,h=>by
  have h:XQ P ⟨some d,.al z false,none⟩ (XT P K false (aE r t)) F L σ:=h
  have h:Oq z false (some d) (XT P K false (aE r t)) F L σ:=h
  exact Xk r t _ _ h.2
def Tl (P:Program) (N:Nat) (esc:List Nat) (pf:List FuncId) (pt:PT) (ops:Array Oper):Option QT:=do
 let qs ← KO P N esc ops (An ops.size)
 let qs:=qs.map (toP pf)
 let tab:=RR ops.toList #[]
 let ls ← fL qs (MO pt).1
 let l0:=EG ops.size false
 if Rj ops tab qs ls l0&&K3 ops tab qs (MO pt).2 (Uh (ls.map (·.1)) l0) none&&decide ((MO pt).2.depth+ls.length≤ops.size) then (Qx qs (MO pt).2).map (aE ls) else none
theorem Vv {qs:List Q}:∀(l:List Nat) (ls:List (Nat×Nat×List AV)),fL qs l=some ls→∀x∈ls,qs[x.1]?=some ⟨some x.2.1,.al x.2.2 false,none⟩∧Ad x.2.2=true
 |[],ls,h,x,hx=>by simp only [fL,AJ] at h;subst h;cases hx
 |i::l,ls,h,x,hx=>by
  simp only [fL] at h
  split at h
  · rename_i d z hq
    split at h
    · rename_i hz
      simp only [AD] at h
      obtain ⟨r,hr,rfl⟩:=h
      cases hx with
      |head=>exact ⟨hq,hz⟩
      |tail _ hx=>exact Vv l r hr x hx
    · cases h
  · cases h
theorem Vf {ops:Array Oper} {qs:List Q}:∀(n m:Nat) (listed:Array Bool) (F:Fm) (L:Lm) (σ:AF),n≤m→RP P ops qs K n listed F L σ→RP P ops qs K m listed F L σ
 |0,0,listed,F,L,σ,_,h=>h
 |0,m+1,listed,F,L,σ,_,h=>⟨fun _=>h.2,fun i hi=>by rw [h.1] at hi;cases hi⟩
 |n+1,0,listed,F,L,σ,hle,h=>by omega
 |n+1,m+1,listed,F,L,σ,hle,h=>⟨h.1,fun i hi=>by
  obtain ⟨q,hq,hx⟩:=h.2 i hi
  exact ⟨q,hq,MV (fun F L σ h=>Vf n m _ F L σ (by omega) h) hx⟩⟩
theorem B9.nQ (h:B9 base g lam Pr N F L σ a w0 w) {F':Fm} (hF:∀s,F' s=F s∨F' s= .undef):B9 base g lam Pr N F' L σ a w0 w:=by
 refine ⟨fun s=>?_,h.sz,h.df,h.loc,h.inj,h.npr,h.rel⟩
 rcases hF s with e|e
 · rw [e];exact h.tm s
 · rw [e];exact VR.undef
theorem SS {ops:Array Oper} {esc:List Nat} {pf:List FuncId} {pt:PT} {qt:QT} (hm:P.follows .mixedOrders=true) (hc:Tl P N esc pf pt ops=some qt) (hx:XT P K false qt F L σ)
 (h:B9 base g lam Pr N F L σ a w0 w) {id:Nat}:(Code.region id ops true).wp P (fun e a' w'=>e= .normal∧E1 base Pr N w0 g w K a' w') a w:=by
 simp only [Tl,AN,AB] at hc
 obtain ⟨qs0,hq0,ls,hls,hc⟩:=hc
 split at hc
 case isFalse=>cases hc
 rename_i hp
 simp only [AP,decide_eq_true_eq] at hp
 simp only [AD] at hc
 obtain ⟨t,ht,rfl⟩:=hc
 have hcl:HZ ops (EG ops.size false):=by
  intro j o ho hj
  have:(EG ops.size false).getD j false=false:=by
   simp only [C9,Array.getElem?_replicate];split<;>rfl
  rw [this] at hj;cases hj
 obtain ⟨hcl2,hsz2⟩:=Ph ls _ hp.1.1 hcl (by simp)
 have hx2:=Xk ls t F L hx
 have hany1:=(TR (P:=P) (K:=K) (fun j i=>SC) _ t ht).1 _ _ _ _ σ (A0 _) hp.1.2 hcl2 hsz2 hx2
 have hany2:=WN (P:=P) (K:=K) (tab:=RR ops.toList #[]) (fun j i=>SC) ls _ F L σ (Vv _ ls hls) hp.1.1 hcl (by simp) hany1
 have hany:=Vf _ ops.size _ _ _ _ hp.2 hany2
 refine wp_region_any hm ?_
 have hF:=h.nQ (S2 (ls.map (·.2.1)) F)
 have hdrew:B9 base g lam Pr N (L5 (ls.map (·.2.1)) F) L σ a w0 { w with drawn:=w.drawn+1}:=
  hF.step (w':=w.drew) (Gh.le_refl g) (fun k b hb=>rfl) (hF.rel.grow (w':=w.drew) (A0 _) (fun _ _ _=>rfl) ((Below.refl base w).drew) (fun b hb=>⟨(hF.rel.pr b hb).1,.inl hb⟩))
 exact QO hq0 K _ _ base g lam Pr _ L σ a w0 _ hany hdrew (fun a' w' hA=>⟨rfl,E1.trans (Gh.le_refl g) ⟨A0 _,fun _ _=>rfl⟩ hA⟩)
def lin:QT→Option (List Q)
 | .done=>some []
 | .one q t=>(lin t).map (q::·)
 | .alt _ _ _=>none
theorem fP:∀(t:QT) (ops:List Q) (F:Fm) (L:Lm) (σ:AF),lin t=some ops→BR P K ops F L σ→XT P K false t F L σ
 | .done,ops,F,L,σ,h,hx=>by simp only [lin,AJ] at h;subst h;exact hx
 | .one q t,ops,F,L,σ,h,hx=>by
  simp only [lin,AD] at h
  obtain ⟨l,hl,rfl⟩:=h
  exact MV (fun F L σ h=>fP t l F L σ hl h) hx
 | .alt _ _ _,ops,F,L,σ,h,_=>by simp [lin] at h
end Go.Ab
