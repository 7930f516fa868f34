/- Regions that draw their order, continued: where operations do not commute, every order is looked at. Regions that draw their order, continued: new local variables may be laid first. Conditions: none. -/
import Derived.Test.YtlckhmkeihbhmaaGreatXAb10b
set_option linter.unusedSimpArgs false
set_option linter.unusedVariables false
set_option maxRecDepth 4000
set_option maxHeartbeats 8000000
open Bool renaming false_eq_true→AZ,and_eq_true→AN,or_eq_true→Cp,not_eq_true'→Cf
open Option.some renaming injEq→AJ
open List renaming all_eq_true→Aj,contains_iff_mem→Aa,mem_singleton→B6,mem_zipIdx_iff_getElem?→P9,mem_append→A6,mem_cons→BW,range→BI
open Option renaming bind_eq_some_iff→AB,map_eq_some_iff→AE,getD_some→Nt,bind_some→Di,bind_eq_bind→AL
open Ne renaming symm→CO
open Array renaming getD_eq_getD_getElem?→Ce,getElem?_eq_getElem→Jq,replicate→ER
open Nat renaming le_refl→A0
namespace Go.Ab
open Go.RowKit
variable {P:Program} {base N:Nat} {g g':Gh} {Pr:Nat→Prop} {σ σ':AF} {w0 w w':World} {lam:Nat→Option Nat} {F:Fm} {L:Lm} {a:Act} {K:C0}
theorem aY {o:O} {dst:Option Nat} {K':C0} (hk:∀F L σ,K F L σ→K' F L σ) (hx:XO P dst K F L σ o):XO P dst K' F L σ o:=by
 by_cases hV:isV o=true
 · rw [fG hV] at hx ⊢
   obtain ⟨v,h1,h2⟩:=hx
   exact ⟨v,h1,hk _ _ _ h2⟩
 · cases o<;>simp only [isV,not_true_eq_false] at hV
   case box x sh=>
    simp only [XO,Pb] at hx ⊢
    refine ⟨hx.1,?_⟩
    have hx:=hx.2
    cases dst with
    |none=>exact hx.elim
    |some d=>cases sh with
     |true=>exact fun i hi=>hk _ _ _ (hx i hi)
     |false=>exact hk _ _ _ hx
   case al z sh=>
    simp only [XO,Pb] at hx ⊢
    refine ⟨hx.1,?_⟩
    have hx:=hx.2
    cases dst with
    |none=>exact hx.elim
    |some d=>cases sh with
     |true=>exact fun i hi=>hk _ _ _ (hx i hi)
     |false=>exact hk _ _ _ hx
   case st x v n=>
    simp only [XO,XSt] at hx ⊢
    obtain ⟨h1,h2,h3,h4⟩:=hx
    refine ⟨h1,h2,h3,?_⟩
    split at h4
    · exact hk _ _ _ h4
    · exact h4.elim
   case msl e s b z l c=>
    obtain ⟨k,k',n,h1,h2,h3,h4,h5,h6⟩:=hx
    exact ⟨k,k',n,h1,h2,h3,h4,h5,fun i hi=>hk _ _ _ (h6 i hi)⟩
   case WZ e s b x y=>
    obtain ⟨n,cs,σ1,srows,h1,h2,h3,h4,h5,h6,h7⟩:=hx
    exact ⟨n,cs,σ1,srows,h1,h2,h3,fun e=>hk _ _ _ (h4 e),h5,h6,fun e t ht=>hk _ _ _ (h7 e t ht)⟩
   case trn x y=>
    obtain ⟨k,s,e,cs,σ1,h1,h2⟩:=hx
    exact ⟨k,s,e,cs,σ1,h1,fun t ht=>hk _ _ _ (h2 t ht)⟩
   case RP e s l z ps=>
    obtain ⟨cs,h1,h2⟩:=hx
    exact ⟨cs,h1,h2.imp (fun h2 t ht=>hk _ _ _ (h2 t ht)) fun ⟨ds,h3,h4,h5⟩=>⟨ds,h3,h4,fun t ht=>hk _ _ _ (h5 t ht)⟩⟩
   case app e s b x y=>
    rcases hx with ⟨rows,σ1,srows,h1,h2,h3,h4,h5,h6⟩|⟨rows,srows,h1,h2,h3,h4,h5,h6,h7⟩
    · exact .inl ⟨rows,σ1,srows,h1,h2,h3,h4,h5,fun t ht=>hk _ _ _ (h6 t ht)⟩
    · exact .inr ⟨rows,srows,h1,h2,h3,h4,h5,h6,hk _ _ _ h7⟩
   case call f args=>
    obtain ⟨h1,R,h2,h3⟩:=hx
    exact ⟨h1,R,h2,fun v σ' hv=>hk _ _ _ (h3 v σ' hv)⟩
   case FY x args=>
    obtain ⟨f,first,caps,h0,hb,h1,R,h2,h3⟩:=hx
    exact ⟨f,first,caps,h0,hb,h1,R,h2,fun v σ' hv=>hk _ _ _ (h3 v σ' hv)⟩
   case ex k xs=>
    simp only [XO,XEx,hV,AZ,if_false] at hx ⊢
    exact ⟨hx.1,hx.2.mono fun v σ' _ hv=>hk _ _ _ hv⟩
theorem Mq {q:Q} {K':C0} (hk:∀F L σ,K F L σ→K' F L σ) (hx:XQ P q K F L σ):XQ P q K' F L σ:=by
 unfold XQ at hx ⊢
 cases hc:gd F q.grd with
 |none=>rw [hc] at hx;exact hx.elim
 |some b=>
  rw [hc] at hx
  cases b
  · exact hk _ _ _ hx
  · exact aY hk hx
inductive PT where
 |done
 |one (i:Nat) (t:PT)
 |alt (i:Nat) (t r:PT)
 |lay (i:Nat) (t:PT)
inductive QT where
 |done
 |one (q:Q) (t:QT)
 |alt (q:Q) (t r:QT)
def XT (P:Program) (K:C0):Bool→QT→C0
 |false,.done=>K
 |true,.done=>fun _ _ _=>True
 |_,.one q t=>XQ P q (XT P K false t)
 |_,.alt q t r=>fun F L σ=>XQ P q (XT P K false t) F L σ∧XT P K true r F L σ
def PT.depth:PT→Nat
 | .done=>0
 | .one _ t=>t.depth+1
 | .alt _ t r=>max (t.depth+1) r.depth
 | .lay _ t=>t.depth+1
def Rm (qs:List Q):PT→Option QT
 | .done=>some .done
 | .one i t=>(qs[i]?).bind fun q=>(Rm qs t).map (.one q ·)
 | .alt i t r=>(qs[i]?).bind fun q=>(Rm qs t).bind fun t'=>(Rm qs r).map (.alt q t' ·)
 | .lay i t=>(qs[i]?).bind fun q=>(Rm qs t).map (.one q ·)
def Kr (ops:Array Oper) (tab:Array Nat) (qs:List Q):PT→Array Bool→Option (List Nat)→Bool
 | .done,listed,none=>(Region.ready .any ops listed).isEmpty
 | .done,listed,some l=>(Region.ready .any ops listed).all (l.contains ·)
 | .one i t,listed,none=>(Region.ready .any ops listed).contains i&&(Region.ready .any ops listed==[i]||UP tab qs listed i)&&Kr ops tab qs t (listed.setIfInBounds i true) none
 | .one i t,listed,some l=>(Region.ready .any ops listed).contains i&&(Region.ready .any ops listed).all (fun j=>j==i||l.contains j)&&Kr ops tab qs t (listed.setIfInBounds i true) none
 | .alt i t r,listed,e=>(Region.ready .any ops listed).contains i&&Kr ops tab qs t (listed.setIfInBounds i true) none&&Kr ops tab qs r listed (some (i::e.getD []))
 | .lay _ _,_,_=>false
theorem UW {ops:Array Oper} {tab:Array Nat} (htab:∀j i,(tab.getD j 0).testBit i=true→Anc ops j i) {qs:List Q}:∀(t:PT) (qt:QT),Rm qs t=some qt→
 (∀n listed F L σ,t.depth≤n→Kr ops tab qs t listed none=true→Hi ops listed→listed.size=ops.size→XT P K false qt F L σ→SC P ops qs K n listed F L σ)∧
 (∀n listed l F L σ,t.depth≤n+1→Kr ops tab qs t listed (some l)=true→Hi ops listed→listed.size=ops.size→XT P K true qt F L σ→
   ∀j∈Region.ready .any ops listed,j ∉ l→∃q,qs[j]?=some q∧XQ P q (SC P ops qs K n (listed.setIfInBounds j true)) F L σ)
 | .done,qt,hp=>by
  simp only [Rm,AJ] at hp;subst hp
  refine ⟨fun n listed F L σ _ hp _ _ hx=>?_,fun n listed l F L σ _ hp _ _ _ j hj hjl=>?_⟩
  · simp only [Kr,List.isEmpty_iff] at hp
    cases n with
    |zero=>exact ⟨hp,hx⟩
    |succ n=>exact ⟨fun _=>hx,fun i hi=>by rw [hp] at hi;cases hi⟩
  · simp only [Kr,Aj,Aa] at hp
    exact absurd (hp j hj) hjl
 | .one i t,qt,hp=>by
  simp only [Rm,AB,AE] at hp
  obtain ⟨q,hq,t',ht',rfl⟩:=hp
  obtain ⟨ih,_⟩:=UW htab t t' ht'
  refine ⟨fun n listed F L σ hd hp hcl hsz hx=>?_,fun n listed l F L σ hd hp hcl hsz hx j hj hjl=>?_⟩
  · simp only [PT.depth] at hd
    obtain ⟨m,rfl⟩:∃m,n=m+1:=⟨n - 1,by omega⟩
    simp only [Kr,AN,Cp,Aa,beq_iff_eq] at hp
    obtain ⟨⟨hr,hok⟩,hrest⟩:=hp
    have hx:XQ P q (XT P K false t') F L σ:=hx
    have ih':=fun F L σ=>ih m (listed.setIfInBounds i true) F L σ (by omega) hrest (hcl.set hr) (by simpa using hsz)
    rcases hok with hok|hok
    · refine ⟨fun h=>(by rw [h] at hr;cases hr),fun j hj=>?_⟩
      rw [hok] at hj
      simp only [B6] at hj
      subst hj
      exact ⟨_,hq,Mq (fun F L σ h=>ih' F L σ h) hx⟩
    · unfold UP at hok
      rw [hq] at hok
      simp only [AN,Aj] at hok
      obtain ⟨v,hy,hk⟩:=(jQ hok.1 _).1 hx
      refine WT htab hq hok.1 m listed F L σ v hcl hsz (fun j qj hj hji hun=>?_) hr hy (ih' _ _ _ hk)
      have hmem:(qj,j)∈qs.zipIdx:=by
       rw [P9];exact hj
      have:=hok.2 (qj,j) hmem
      simp only [Cp,beq_iff_eq] at this
      rcases this with (h|h)|h
      · exact absurd h hji
      · rw [hun] at h;cases h
      · exact h
  · simp only [PT.depth] at hd
    simp only [Kr,AN,Aj,Aa,Cp,beq_iff_eq] at hp
    obtain ⟨⟨hr,hall⟩,hrest⟩:=hp
    have hx:XQ P q (XT P K false t') F L σ:=hx
    rcases hall j hj with rfl|h
    · exact ⟨q,hq,Mq (fun F L σ h=>ih n _ F L σ (by omega) hrest (hcl.set hr) (by simpa using hsz) h) hx⟩
    · exact absurd h hjl
 | .alt i t r,qt,hp=>by
  simp only [Rm,AB,AE] at hp
  obtain ⟨q,hq,t',ht',r',hr',rfl⟩:=hp
  obtain ⟨ih,_⟩:=UW htab t t' ht'
  obtain ⟨_,ihr⟩:=UW htab r r' hr'
  refine ⟨fun n listed F L σ hd hp hcl hsz hx=>?_,fun n listed l F L σ hd hp hcl hsz hx j hj hjl=>?_⟩
  · simp only [PT.depth] at hd
    obtain ⟨m,rfl⟩:∃m,n=m+1:=⟨n - 1,by omega⟩
    simp only [Kr,AN,Aa,Option.getD_none] at hp
    obtain ⟨⟨hr,hrest⟩,hp2⟩:=hp
    obtain ⟨hx1,hx2⟩:=hx
    refine ⟨fun h=>(by rw [h] at hr;cases hr),fun j hj=>?_⟩
    by_cases hji:j=i
    · subst hji
      exact ⟨q,hq,Mq (fun F L σ h=>ih m _ F L σ (by omega) hrest (hcl.set hr) (by simpa using hsz) h) hx1⟩
    · exact ihr m listed [i] F L σ (by omega) hp2 hcl hsz hx2 j hj (by simpa using hji)
  · simp only [PT.depth] at hd
    simp only [Kr,AN,Aa,Nt] at hp
    obtain ⟨⟨hr,hrest⟩,hp2⟩:=hp
    obtain ⟨hx1,hx2⟩:=hx
    by_cases hji:j=i
    · subst hji
      exact ⟨q,hq,Mq (fun F L σ h=>ih n _ F L σ (by omega) hrest (hcl.set hr) (by simpa using hsz) h) hx1⟩
    · exact ihr n listed (i::l) F L σ (by omega) hp2 hcl hsz hx2 j hj (by simp [hji,hjl])
 | .lay i t,qt,hp=>⟨fun n listed F L σ _ hp=>by simp [Kr] at hp,fun n listed l F L σ _ hp=>by simp [Kr] at hp⟩
end Go.Ab
namespace Go.Ab
open Go.RowKit
variable {P:Program} {base N:Nat} {g g':Gh} {Pr:Nat→Prop} {σ σ':AF} {w0 w w':World} {lam:Nat→Option Nat} {F:Fm} {L:Lm} {a:Act} {K:C0} {d:Nat} {z:List AV}
theorem VR.BG {x:AV} {v:Value} (h:VR g x v) (d:Nat):x.BG d=false:=by cases h<;>rfl
theorem Sg {x:AV} (h:x.BF=true) (d:Nat):x.BG d=false:=by cases x<;>first|rfl|(cases h;done)
theorem Z8 {x:AV} (h:x.BV=true) (d:Nat):x.BG d=false:=by cases x<;>first|rfl|(cases h;done)
theorem AK.BG {f:FuncId} {args:List AV} {Q:AV→AF→Prop} (h:AK P f args σ Q) (d:Nat):AK P f args σ (fun v σ'=>Q v σ'∧v.BG d=false):=
 fun base g Pr w0 w vs hr hv=>(h base g Pr w0 w vs hr hv).mono fun _ _ ⟨v,av,g',σ',a,b,c,d',e,q⟩=>⟨v,av,g',σ',a,b,c,d',e,q,b.BG d⟩
def Off (d:Nat) (F:Fm):Prop:=∀s,(F s).BG d=false
theorem Off.Av (h:Off d F) {dst:Option Nat} {v:AV} (hv:v.BG d=false):Off d (Av dst v F):=by
 intro s
 cases dst with
 |none=>exact h s
 |some k=>
  simp only [Ab.Av,Ab.put]
  split
  · exact hv
  · exact h s
theorem Off.DB (h:Off d F) (k:Nat):Off d (DB k F):=by
 intro s
 simp only [Ab.DB]
 split
 · rfl
 · exact h s
theorem X9 (d:Nat) (F:Fm):Off d (DB d F):=by
 intro s
 simp only [DB]
 split
 · rfl
 · rename_i h;simpa using h
def cOk:X→Bool
 | .t _=>true
 | .c v=>v.BF
theorem PN (h:Off d F) {x:X} (hx:cOk x=true):(xv F x).BG d=false:=by
 cases x with
 |t n=>exact h n
 |c v=>exact Sg hx d
def PV:O→Bool
 | .mv x| .fld x _| .ld x _| .ldl x _| .nck x=>cOk x
 | .pick _ x y=>cOk x&&cOk y
 | .st x _ _=>cOk x
 |_=>true
theorem Ya {k:Nat} (h:k≠d) (z:List AV) (L:Lm):BA d z L k=L k:=by simp [BA,h]
theorem nQ {p:AV} (hp:p.BG d=false) (n:Option Nat):ldA (BA d z L) σ p n=ldA L σ p n:=by
 cases p<;>try rfl
 · rename_i dx;cases dx<;>rfl
 rename_i k o
 have:k≠d:=by simpa [AV.BG] using hp
 simp [ldA,Ya this]
theorem kZ {p:AV} (hp:p.BG d=false) (n:Option Nat):Y1 (BA d z L) p n=Y1 L p n:=by
 cases p<;>try rfl
 rename_i k o
 have:k≠d:=by simpa [AV.BG] using hp
 simp [Y1,Ya this]
theorem qS (h:Off d F) {o:O} (hc:PV o=true):pv F (BA d z L) σ o=pv F L σ o:=by
 cases o<;>try rfl
 case ld x n=>exact nQ (PN h hc) n
 case ldl x n=>exact kZ (PN h hc) n
theorem P3 {cs:List AV} {o:Nat} {n:Option Nat} {v:AV} (h:rdC cs o n=some v):v.BG d=false:=by
 cases n with
 |none=>
  simp only [rdC,AB] at h
  obtain ⟨v0,_,h⟩:=h
  obtain ⟨rfl,hc⟩:=Qd h
  exact Z8 hc d
 |some n=>
  simp only [rdC] at h
  split at h
  · cases h;rfl
  · cases h
theorem kT {op:BinOp} {k:IntKind} {x y:Int} {v:AV} (h:gV op k x y=some v):v.BG d=false:=by
 unfold gV at h
 split at h<;>first|(cases h;rfl)|(split at h<;>first|(cases h;done)|(cases h;rfl))|(cases h;done)
theorem mH {op:BinOp} {x y:List UInt8} {v:AV} (h:aL op x y=some v):v.BG d=false:=by
 unfold aL at h
 split at h<;>first|(cases h;rfl)|(split at h<;>first|(cases h;done)|(cases h;rfl))|(cases h;done)
theorem eW {b:Bool} {x y v:AV} (h:mmA b x y=some v):v.BG d=false:=by
 unfold mmA at h
 split at h
 · split at h
   · cases h;rfl
   · cases h
 · cases h
theorem YT {rows:List (List DV)} {m:Int} {n:Nat} {v:AV} (h:ixR rows m n=some v):v.BG d=false:=by
 unfold ixR at h
 split at h
 · simp only [AB] at h
   obtain ⟨r,_,h⟩:=h
   split at h
   · cases h;rfl
   · cases h
 · cases h
theorem nJ {k:EK} {args:List AV} {v:AV} (h:exP k args=some v):v.BG d=false:=by
 obtain ⟨_,h⟩:=UL h
 unfold QN at h
 split at h
 · cases h;rfl
 · simp only [AE] at h;obtain ⟨_,_,rfl⟩:=h;rfl
 · simp only [AE] at h;obtain ⟨_,_,rfl⟩:=h;rfl
 · cases h
theorem oJ (h:Off d F) {o:O} (hc:PV o=true) {v:AV} (hv:pv F L σ o=some v):v.BG d=false:=by
 cases o<;>simp only [pv] at hv<;>try (cases hv;done)
 case mv x=>cases hv;exact PN h hc
 case ex k xs=>exact nJ hv
 case pick c x y=>
  simp only [PV,AN] at hc
  unfold Zi at hv
  split at hv
  · cases hv;split
    · exact PN h hc.1
    · exact PN h hc.2
  · cases hv
 case fld x off=>
  have hx:=PN h hc
  generalize xv F x=p at hv hx
  cases p<;>simp only [b8] at hv<;>try (cases hv;done)
  · rename_i dx;cases dx<;>simp only at hv<;>first|(cases hv;done)|(cases hv;rfl)
  · cases hv;exact hx
  · cases hv;rfl
  · cases hv;rfl
 case ld x n=>
  generalize xv F x=p at hv
  cases p<;>simp only [ldA] at hv<;>try (cases hv;done)
  · rename_i dx;cases dx<;>simp only at hv<;>first|(cases hv;done)|exact P3 hv
  · simp only [AB] at hv;obtain ⟨_,_,hv⟩:=hv;exact P3 hv
  · simp only [AB] at hv;obtain ⟨_,_,hv⟩:=hv;exact P3 hv
  · exact P3 hv
 case ldl x n=>
  generalize xv F x=p at hv
  cases p<;>simp only [Y1] at hv<;>try (cases hv;done)
  simp only [AB] at hv;obtain ⟨_,_,hv⟩:=hv;exact P3 hv
 case ix x i n=>
  unfold ixA at hv
  split at hv
  · split at hv
    · cases hv;rfl
    · cases hv
  · split at hv
    · cases hv;rfl
    · cases hv
  · exact YT hv
  · exact YT hv
  · exact YT hv
  · cases hv
 case Lx x i=>
  unfold WG at hv
  split at hv
  · split at hv
    · simp only [AE] at hv;obtain ⟨_,_,rfl⟩:=hv;rfl
    · cases hv
  · cases hv
 case len x=>
  unfold OC at hv
  split at hv<;>first|(cases hv;rfl)|(cases hv;done)
 case Fv x=>
  unfold Xk at hv
  split at hv<;>first|(cases hv;rfl)|(cases hv;done)
 case bin op x y=>
  unfold fO at hv
  split at hv
  · split at hv
    · exact kT hv
    · cases hv
  · exact mH hv
  · cases hv
 case fQ op x y=>
  unfold XK at hv
  split at hv<;>first|(cases hv;rfl)|(cases hv;done)
 case un op x=>
  unfold unA at hv
  split at hv<;>first|(cases hv;rfl)|(cases hv;done)
 case conv k x=>
  unfold XV at hv
  split at hv<;>first|(cases hv;rfl)|(cases hv;done)
 case bld z ps=>simp only [AE] at hv;obtain ⟨_,_,rfl⟩:=hv;rfl
 case bsl s n z ps=>simp only [AE] at hv;obtain ⟨_,_,rfl⟩:=hv;rfl
 case mkf f x y=>
  split at hv
  · cases hv;rfl
  · cases hv
 case ext x i=>
  unfold gH at hv
  split at hv
  · simp only [AB] at hv
    obtain ⟨v0,_,hv⟩:=hv
    obtain ⟨rfl,hn⟩:=V9 hv
    exact Sg hn d
  · cases hv
 case nck x=>
  have hx:=PN h hc
  generalize xv F x=p at hv hx
  cases p<;>simp only [lJ] at hv<;>try (cases hv;done)
  · rename_i dx;cases dx<;>simp only at hv<;>first|(cases hv;done)|(cases hv;rfl)
  · cases hv;exact hx
  · cases hv;rfl
  · cases hv;rfl
 case mm b x y=>exact eW hv
 case fd x off n=>
  generalize xv F x=p at hv
  cases p<;>simp only [fdA] at hv<;>try (cases hv;done)
  exact P3 hv
 case ssl x lo hi=>
  unfold PF at hv
  split at hv
  · simp only [AE] at hv;obtain ⟨_,_,rfl⟩:=hv;rfl
  · cases hv
 case sls x lo hi mx n=>
  unfold iW at hv
  split at hv
  · split at hv
    · cases hv;rfl
    · cases hv
  · simp only [AB] at hv
    obtain ⟨_,_,hv⟩:=hv
    split at hv
    · cases hv;rfl
    · cases hv
  · simp only [AB] at hv
    obtain ⟨_,_,hv⟩:=hv
    split at hv
    · cases hv;rfl
    · cases hv
  simp only [AB] at hv
  obtain ⟨rows,_,hv⟩:=hv
  unfold Yn at hv
  split at hv
  · simp only [AB] at hv
    obtain ⟨b,_,hv⟩:=hv
    split at hv
    · cases hv;rfl
    · split at hv
      · cases hv;rfl
      · cases hv
    · cases hv
  · cases hv
 case Zl ne x=>
  unfold Xc at hv
  split at hv<;>first|(cases hv;rfl)|(cases hv;done)
 case aJ ne n x y=>
  unfold Xl at hv
  split at hv
  · split at hv
    · simp only [AE] at hv;obtain ⟨_,_,rfl⟩:=hv;rfl
    · cases hv
  · cases hv
 case mm3 b x y z=>
  simp only [AB] at hv
  obtain ⟨_,_,hv⟩:=hv
  exact eW hv
 case fS x=>simp only [AE] at hv;obtain ⟨_,_,rfl⟩:=hv;rfl
theorem Dm {dst:Option Nat} (h:dst≠some d) (v x:AV) (F:Fm):Av dst v (put d x F)=put d x (Av dst v F):=
 Sl (d:=dst) (e:=some d) (fun k hk he=>h (by rw [hk,he])) v x F
theorem Ou {k:Nat} (h:d≠k) (F:Fm):DB k (put d (.lp d 0) F)=put d (.lp d 0) (DB k F):=by
 funext s
 simp only [DB,put]
 by_cases e:s=d
 · subst e;simp [AV.BG,h]
 · simp [e]
theorem Sk {k:Nat} (h:k≠d) (x y:List AV) (L:Lm):BA k x (BA d y L)=BA d y (BA k x L):=by
 funext s
 simp only [BA]
 by_cases e:s=k
 · subst e;simp [h]
 · simp [e]
theorem pO {o:O} {dst:Option Nat} (hN:Off d F) (hc:PV o=true) (hl:∀s∈Hz o,s≠d) (hd:dst≠some d) (hx:XO P dst K (put d (.lp d 0) F) (BA d z L) σ o):
 XO P dst (fun F' L' σ'=>Off d F'∧K (put d (.lp d 0) F') (BA d z L') σ') F L σ o:=by
 have hF:∀s∈Hz o,put d (.lp d 0) F s=F s:=fun s hs=>by simp [put,hl s hs]
 by_cases hV:isV o=true
 · rw [fG hV] at hx ⊢
   obtain ⟨u,h1,h2⟩:=hx
   have h1:=U3 hF h1
   have h3:Yv P F L σ u o∧u.BG d=false:=by
    cases o<;>try (cases hV;done)
    case T2 f args=>exact ⟨h1,Sg h1.2.1 d⟩
    all_goals
     simp only [Yv] at h1 ⊢
     rw [qS hN hc] at h1
     exact ⟨h1,oJ hN hc h1⟩
   refine ⟨u,h3.1,hN.Av h3.2,?_⟩
   rw [← Dm hd];exact h2
 · cases o<;>simp only [isV,not_true_eq_false] at hV<;>simp only [Hz,A6] at hF
   case box x sh=>
    simp only [XO,Pb] at hx ⊢
    rw [← BJ hF]
    refine ⟨hx.1,?_⟩
    have hx:=hx.2
    cases dst with
    |none=>exact hx.elim
    |some e=>
     have hne:d≠e:=fun h=>hd (by rw [h])
     cases sh with
     |true=>exact fun i hi=>⟨hN.Av (dst:=some e) (v:= .gp i 0) rfl,by have:=hx i hi;rw [show put e (.gp i 0) (put d (.lp d 0) F)=put d (.lp d 0) (put e (.gp i 0) F) from Dm (dst:=some e) hd _ _ _] at this;exact this⟩
     |false=>
      refine ⟨(hN.DB e).Av (dst:=some e) (v:= .lp e 0) (by simp [AV.BG];exact CO hne),?_⟩
      have hx:K (put e (.lp e 0) (DB e (put d (.lp d 0) F))) (BA e (xv (put d (.lp d 0) F) x).cells (BA d z L)) σ:=hx
      rw [Ou hne,Sk (CO hne),show put e (.lp e 0) (put d (.lp d 0) (DB e F))=put d (.lp d 0) (put e (.lp e 0) (DB e F)) from Dm (dst:=some e) hd _ _ _] at hx
      exact hx
   case al y sh=>
    simp only [XO,Pb] at hx ⊢
    refine ⟨hx.1,?_⟩
    have hx:=hx.2
    cases dst with
    |none=>exact hx.elim
    |some e=>
     have hne:d≠e:=fun h=>hd (by rw [h])
     cases sh with
     |true=>exact fun i hi=>⟨hN.Av (dst:=some e) (v:= .gp i 0) rfl,by have:=hx i hi;rw [show put e (.gp i 0) (put d (.lp d 0) F)=put d (.lp d 0) (put e (.gp i 0) F) from Dm (dst:=some e) hd _ _ _] at this;exact this⟩
     |false=>
      refine ⟨(hN.DB e).Av (dst:=some e) (v:= .lp e 0) (by simp [AV.BG];exact CO hne),?_⟩
      have hx:K (put e (.lp e 0) (DB e (put d (.lp d 0) F))) (BA e y (BA d z L)) σ:=hx
      rw [Ou hne,Sk (CO hne),show put e (.lp e 0) (put d (.lp d 0) (DB e F))=put d (.lp d 0) (put e (.lp e 0) (DB e F)) from Dm (dst:=some e) hd _ _ _] at hx
      exact hx
   case st x y n=>
    simp only [XO,XSt] at hx ⊢
    rw [BJ (F:=put d (.lp d 0) F) (F':=F) (fun s hs=>hF s (.inl hs)),BJ (F:=put d (.lp d 0) F) (F':=F) (fun s hs=>hF s (.inr hs))] at hx
    obtain ⟨h1,h2,h3,h4⟩:=hx
    refine ⟨h1,h2,h3,?_⟩
    have hp:=PN hN hc
    generalize xv F x=p at hp h4
    cases p<;>simp only [stA] at h4 ⊢<;>try (exact h4.elim)
    · rename_i k o2
      have hk:k≠d:=by simpa [AV.BG] using hp
      rw [Ya hk] at h4
      cases hL:L k with
      |none=>rw [hL] at h4;exact h4.elim
      |some cs=>
       rw [hL] at h4
       simp only [Di] at h4 ⊢
       by_cases hle:o2+(xv F y).cells.length≤cs.length
       · rw [if_pos hle] at h4 ⊢
         refine ⟨hN,?_⟩
         have h4:K (put d (.lp d 0) F) (BA k (wr cs o2 (xv F y).cells) (BA d z L)) σ:=h4
         rw [Sk hk] at h4;exact h4
       · rw [if_neg hle] at h4;exact h4.elim
    · rename_i i o2
      cases hb:σ.blk i with
      |none=>rw [hb] at h4;exact h4.elim
      |some cs=>
       rw [hb] at h4
       simp only [Di] at h4 ⊢
       by_cases hle:o2+(xv F y).cells.length≤cs.length
       · rw [if_pos hle] at h4 ⊢;exact ⟨hN,h4⟩
       · rw [if_neg hle] at h4;exact h4.elim
   case msl e s b y l c=>
    obtain ⟨k,k',n,h1,h2,h3,h4,h5,h6⟩:=hx
    refine ⟨k,k',n,by rw [← BJ (fun s hs=>hF s (.inl hs))];exact h1,by rw [← BJ (fun s hs=>hF s (.inr hs))];exact h2,h3,h4,h5,fun i hi=>⟨hN.Av rfl,?_⟩⟩
    rw [← Dm hd];exact h6 i hi
   case app e s b x y=>
    rcases hx with ⟨rows,σ1,srows,h1,h2,h3,h4,h5,h6⟩|⟨rows,srows,h1,h2,h3,h4,h5,h6,h7⟩
    · refine .inl ⟨rows,σ1,srows,by rw [← BJ (fun s hs=>hF s (.inl hs))];exact h1,by rw [← BJ (fun s hs=>hF s (.inr hs))];exact h2,h3,h4,h5,fun t ht=>⟨hN.Av rfl,?_⟩⟩
      rw [← Dm hd];exact h6 t ht
    · refine .inr ⟨rows,srows,by rw [← BJ (fun s hs=>hF s (.inl hs))];exact h1,by rw [← BJ (fun s hs=>hF s (.inr hs))];exact h2,h3,h4,h5,h6,⟨hN.Av rfl,?_⟩⟩
      rw [← Dm hd];exact h7
   case WZ e s b x y=>
    obtain ⟨n,cs,σ1,srows,h1,h2,h3,h4,h5,h6,h7⟩:=hx
    refine ⟨n,cs,σ1,srows,by rw [← BJ (fun s hs=>hF s (.inl hs))];exact h1,by rw [← BJ (fun s hs=>hF s (.inr hs))];exact h2,h3,fun e=>⟨hN.Av ?_,?_⟩,h5,h6,fun e t ht=>⟨hN.Av rfl,?_⟩⟩
    · unfold LY at h1
      rw [← BJ (fun s hs=>hF s (.inl hs))]
      generalize xv _ x=xx at h1
      cases xx<;>first|rfl|(cases h1;done)
    · rw [← Dm hd,← BJ (fun s hs=>hF s (.inl hs))];exact h4 e
    · rw [← Dm hd];exact h7 e t ht
   case trn x y=>
    obtain ⟨k,s,e,cs,σ1,h1,h2⟩:=hx
    refine ⟨k,s,e,cs,σ1,by rw [← BJ (fun s hs=>hF s (.inl hs)),← BJ (fun s hs=>hF s (.inr hs))];exact h1,fun t ht=>⟨hN.Av rfl,?_⟩⟩
    rw [← Dm hd];exact h2 t ht
   case RP e s l y ps=>
    obtain ⟨cs,h1,h2⟩:=hx
    refine ⟨cs,by rw [← L6 _ _ hF];exact h1,h2.imp (fun h2 t ht=>⟨hN.Av rfl,?_⟩) fun ⟨ds,h3,h4,h5⟩=>⟨ds,h3,h4,fun t ht=>⟨hN.Av rfl,?_⟩⟩⟩
    · rw [← Dm hd];exact h2 t ht
    · rw [← Dm hd];exact h5 t ht
   case call f args=>
    obtain ⟨h1,R,h2,h3⟩:=hx
    rw [Fo hF] at h1 h2
    refine ⟨h1,_,h2.BG d,fun u σ' hv=>⟨hN.Av hv.2,?_⟩⟩
    rw [← Dm hd];exact h3 u σ' hv.1
   case FY x args=>
    obtain ⟨f,first,caps,h0,hb,h1,R,h2,h3⟩:=hx
    rw [Fo (fun s hs=>hF s (.inr hs))] at h1 h2
    refine ⟨f,first,caps,by rw [← BJ (fun s hs=>hF s (.inl hs))];exact h0,hb,h1,_,h2.BG d,fun u σ' hv=>⟨hN.Av hv.2,?_⟩⟩
    rw [← Dm hd];exact h3 u σ' hv.1
   case ex k xs=>
    simp only [XO,XEx,hV,AZ,if_false] at hx ⊢
    rw [Fo hF] at hx
    refine ⟨hx.1,hx.2.mono fun u σ' hu hv=>⟨hN.Av (hu d),?_⟩⟩
    rw [← Dm hd];exact hv
theorem pQ {q:Q} (hN:Off d F) (hc:PV q.o=true) (hl:∀s∈q.looks,s≠d) (hd:q.dst≠some d) (hx:XQ P q K (put d (.lp d 0) F) (BA d z L) σ):
 XQ P q (fun F' L' σ'=>Off d F'∧K (put d (.lp d 0) F') (BA d z L') σ') F L σ:=by
 have h1:∀s∈Hz q.o,s≠d:=fun s hs=>hl s (by simp [Q.looks,hs])
 unfold XQ at hx ⊢
 rw [VK (F:=put d (.lp d 0) F) (F':=F) (fun s hs=>by simp [put,hl s hs])] at hx
 cases hc2:gd F q.grd with
 |none=>rw [hc2] at hx;exact hx.elim
 |some b=>
  rw [hc2] at hx
  cases b
  · have hx:K (Av q.dst (.tup []) (put d (.lp d 0) F)) (BA d z L) σ:=hx
    rw [Dm hd] at hx
    exact ⟨hN.Av rfl,hx⟩
  · exact pO hN hc h1 hd hx
theorem iQ (h:Off d F):DB d F=F:=by
 funext s
 simp [DB,h s]
def pH (tab:Array Nat) (qs:List Q) (i d:Nat):Bool:=
 qs.zipIdx.all fun (qj,j)=>j==i||(tab.getD j 0).testBit i||(PV qj.o&& !qj.looks.contains d&&qj.dst != some d)
theorem oS {ops:Array Oper} {tab:Array Nat} (htab:∀j i,(tab.getD j 0).testBit i=true→Anc ops j i) {qs:List Q} {i:Nat} (hi:qs[i]?=some ⟨some d,.al z false,none⟩) (hz:Ag z=true) (hlay:pH tab qs i d=true):
 ∀(fuel:Nat) (listed:Array Bool) (F:Fm) (L:Lm) (σ:AF),Hi ops listed→listed.size=ops.size→i∈Region.ready .any ops listed→Off d F→
  SC P ops qs K fuel (listed.setIfInBounds i true) (put d (.lp d 0) F) (BA d z L) σ→SC P ops qs K (fuel+1) listed F L σ:=by
 have hself:∀(K2:C0) (F:Fm) (L:Lm) (σ:AF),Off d F→K2 (put d (.lp d 0) F) (BA d z L) σ→XQ P ⟨some d,.al z false,none⟩ K2 F L σ:=fun K2 F L σ hN h=>by
  show Pb z false (some d) K2 F L σ
  refine ⟨hz,?_⟩
  show K2 (put d (.lp d 0) (DB d F)) (BA d z L) σ
  rw [iQ hN];exact h
 intro fuel
 induction fuel with
 |zero=>
  intro listed F L σ hcl hsz hr hN H
  refine ⟨fun h=>(by rw [h] at hr;cases hr),fun j hj=>?_⟩
  by_cases hji:i=j
  · subst hji;exact ⟨_,hi,hself _ _ _ _ hN H⟩
  · have:=Mb hj hji
    rw [H.1] at this;cases this
 |succ fuel ih=>
  intro listed F L σ hcl hsz hr hN H
  refine ⟨fun h=>(by rw [h] at hr;cases hr),fun j hj=>?_⟩
  by_cases hji:i=j
  · subst hji;exact ⟨_,hi,hself _ _ _ _ hN H⟩
  · obtain ⟨qj,hqj,hxj⟩:=H.2 j (Mb hj hji)
    obtain ⟨hjlt,hjun,oj,hoj,hjall⟩:=Iv.1 hj
    have hiun:=(Iv.1 hr).2.1
    have hilt:=(Iv.1 hr).1
    have hmem:(qj,j)∈qs.zipIdx:=by rw [P9];exact hqj
    have hb:=Aj.1 hlay (qj,j) hmem
    simp only [Cp,beq_iff_eq,AN,Cf,bne_iff_ne] at hb
    rcases hb with (hb|hanc)|⟨⟨hc,hlk⟩,hdst⟩
    · exact absurd hb.symm hji
    · have h1:=U7 hcl (htab j i hanc) (fun o ho=>by rw [hoj] at ho;cases ho;exact hjall)
      rw [Ce,Jq (by omega)] at h1 hiun
      simp at h1 hiun
      rw [h1] at hiun;cases hiun
    · refine ⟨qj,hqj,?_⟩
      have hlk':∀s∈qj.looks,s≠d:=fun s hs he=>by subst he;rw [← Bool.not_eq_true,Aa] at hlk;exact hlk hs
      have hcomm:(listed.setIfInBounds i true).setIfInBounds j true=(listed.setIfInBounds j true).setIfInBounds i true:=Array.setIfInBounds_comm _ _ hji
      refine Mq (fun F' L' σ' h=>?_) (pQ hN hc hlk' hdst hxj)
      refine ih _ F' L' σ' (hcl.set hj) (by simpa using hsz) (Mb hr (CO hji)) h.1 ?_
      rw [← hcomm];exact h.2
def Lv:List Nat→Fm→Fm
 |[],F=>F
 |d::ds,F=>Lv ds (DB d F)
theorem T3:∀(ds:List Nat) (F:Fm) (s:Nat),Lv ds F s=F s∨Lv ds F s= .undef
 |[],F,s=>.inl rfl
 |d::ds,F,s=>by
  rcases T3 ds (DB d F) s with h|h
  · rw [Lv,h];simp only [DB];split<;>simp
  · exact .inr h
theorem Vg:∀(ds:List Nat) (F:Fm) (d:Nat),(d∈ds∨Off d F)→Off d (Lv ds F)
 |[],F,d,h=>by
  rcases h with h|h
  · cases h
  · exact h
 |e::ds,F,d,h=>by
  refine Vg ds (DB e F) d ?_
  rcases h with h|h
  · cases h with
    |head=>exact .inr (X9 _ F)
    |tail _ h=>exact .inl h
  · exact .inr (h.DB e)
theorem Vh:∀(ds:List Nat) (F:Fm) (d:Nat),d ∉ ds→Lv ds (put d (.lp d 0) F)=put d (.lp d 0) (Lv ds F)
 |[],F,d,_=>rfl
 |e::ds,F,d,h=>by
  simp only [BW,not_or] at h
  simp only [Lv]
  rw [Ou h.1,Vh ds _ d h.2]
def Mj:PT→List Nat×PT
 | .lay i t=>(i::(Mj t).1,(Mj t).2)
 |t=>([],t)
def kY (qs:List Q):List Nat→Option (List (Nat×Nat×List AV))
 |[]=>some []
 |i::l=>match qs[i]? with
  |some ⟨some d,.al z false,none⟩=>if Ag z then (kY qs l).map ((i,d,z)::·) else none
  |_=>none
def Sb (ops:Array Oper) (tab:Array Nat) (qs:List Q):List (Nat×Nat×List AV)→Array Bool→Bool
 |[],_=>true
 |(i,d,_)::r,listed=>(Region.ready .any ops listed).contains i&&pH tab qs i d&& !(r.map (·.2.1)).contains d&&Sb ops tab qs r (listed.setIfInBounds i true)
def WC:List Nat→Array Bool→Array Bool
 |[],a=>a
 |i::l,a=>WC l (a.setIfInBounds i true)
def qH:List (Nat×Nat×List AV)→Fm→Fm
 |[],F=>F
 |(_,d,_)::r,F=>qH r (put d (.lp d 0) (DB d F))
def qI:List (Nat×Nat×List AV)→Lm→Lm
 |[],L=>L
 |(_,d,z)::r,L=>qI r (BA d z L)
theorem Xr {ops:Array Oper} {tab:Array Nat} (htab:∀j i,(tab.getD j 0).testBit i=true→Anc ops j i) {qs:List Q} {n:Nat}:∀(ls:List (Nat×Nat×List AV)) (listed:Array Bool) (F:Fm) (L:Lm) (σ:AF),
 (∀x∈ls,qs[x.1]?=some ⟨some x.2.1,.al x.2.2 false,none⟩∧Ag x.2.2=true)→Sb ops tab qs ls listed=true→Hi ops listed→listed.size=ops.size→
 SC P ops qs K n (WC (ls.map (·.1)) listed) (qH ls F) (qI ls L) σ→SC P ops qs K (n+ls.length) listed (Lv (ls.map (·.2.1)) F) L σ
 |[],listed,F,L,σ,_,_,_,_,h=>h
 |(i,d,z)::r,listed,F,L,σ,hq,hok,hcl,hsz,h=>by
  simp only [Sb,AN,Aa,Cf] at hok
  obtain ⟨⟨⟨hr,hlay⟩,hnd⟩,hrest⟩:=hok
  have hnd':d ∉ r.map (·.2.1):=fun hm=>by rw [← Bool.not_eq_true,Aa] at hnd;exact hnd hm
  obtain ⟨hi,hz⟩:=hq (i,d,z) (by simp)
  have ih:=Xr htab (n:=n) r (listed.setIfInBounds i true) (put d (.lp d 0) (DB d F)) (BA d z L) σ (fun x hx=>hq x (by simp [hx])) hrest (hcl.set hr) (by simpa using hsz) h
  rw [Vh _ _ _ hnd'] at ih
  exact oS htab hi hz hlay (n+r.length) listed _ L σ hcl hsz hr (Vg (r.map (·.2.1)) (DB d F) d (.inr (X9 d F))) ih
theorem Q1 {ops:Array Oper} {tab:Array Nat} {qs:List Q}:∀(ls:List (Nat×Nat×List AV)) (listed:Array Bool),Sb ops tab qs ls listed=true→Hi ops listed→listed.size=ops.size→Hi ops (WC (ls.map (·.1)) listed)∧(WC (ls.map (·.1)) listed).size=ops.size
 |[],listed,_,hc,hs=>⟨hc,hs⟩
 |(i,d,z)::r,listed,hok,hcl,hsz=>by
  simp only [Sb,AN,Aa] at hok
  exact Q1 r _ hok.2 (hcl.set hok.1.1.1) (by simpa using hsz)
def fB (ls:List (Nat×Nat×List AV)) (t:QT):QT:=ls.foldr (fun x acc=>.one ⟨some x.2.1,.al x.2.2 false,none⟩ acc) t
theorem Zj:∀(ls:List (Nat×Nat×List AV)) (t:QT) (F:Fm) (L:Lm),XT P K false (fB ls t) F L σ→XT P K false t (qH ls F) (qI ls L) σ
 |[],t,F,L,h=>h
 |(i,d,z)::r,t,F,L,h=>by
  have h:XQ P ⟨some d,.al z false,none⟩ (XT P K false (fB r t)) F L σ:=h
  have h:Pb z false (some d) (XT P K false (fB r t)) F L σ:=h
  exact Zj r t _ _ h.2
def Uz (P:Program) (N:Nat) (esc:List Nat) (pf:List FuncId) (pt:PT) (ops:Array Oper):Option QT:=do
 let qs ← Kg P N esc ops (BI ops.size)
 let qs:=qs.map (toP pf)
 let tab:=SE ops.toList #[]
 let ls ← kY qs (Mj pt).1
 let l0:=ER ops.size false
 if Sb ops tab qs ls l0&&Kr ops tab qs (Mj pt).2 (WC (ls.map (·.1)) l0) none&&decide ((Mj pt).2.depth+ls.length≤ops.size) then (Rm qs (Mj pt).2).map (fB ls) else none
theorem X2 {qs:List Q}:∀(l:List Nat) (ls:List (Nat×Nat×List AV)),kY qs l=some ls→∀x∈ls,qs[x.1]?=some ⟨some x.2.1,.al x.2.2 false,none⟩∧Ag x.2.2=true
 |[],ls,h,x,hx=>by simp only [kY,AJ] at h;subst h;cases hx
 |i::l,ls,h,x,hx=>by
  simp only [kY] at h
  split at h
  · rename_i d z hq
    split at h
    · rename_i hz
      simp only [AE] at h
      obtain ⟨r,hr,rfl⟩:=h
      cases hx with
      |head=>exact ⟨hq,hz⟩
      |tail _ hx=>exact X2 l r hr x hx
    · cases h
  · cases h
theorem XI {ops:Array Oper} {qs:List Q}:∀(n m:Nat) (listed:Array Bool) (F:Fm) (L:Lm) (σ:AF),n≤m→SC P ops qs K n listed F L σ→SC P ops qs K m listed F L σ
 |0,0,listed,F,L,σ,_,h=>h
 |0,m+1,listed,F,L,σ,_,h=>⟨fun _=>h.2,fun i hi=>by rw [h.1] at hi;cases hi⟩
 |n+1,0,listed,F,L,σ,hle,h=>by omega
 |n+1,m+1,listed,F,L,σ,hle,h=>⟨h.1,fun i hi=>by
  obtain ⟨q,hq,hx⟩:=h.2 i hi
  exact ⟨q,hq,Mq (fun F L σ h=>XI n m _ F L σ (by omega) h) hx⟩⟩
theorem Bd.sD (h:Bd base g lam Pr N F L σ a w0 w) {F':Fm} (hF:∀s,F' s=F s∨F' s= .undef):Bd base g lam Pr N F' L σ a w0 w:=by
 refine ⟨fun s=>?_,h.sz,h.df,h.loc,h.inj,h.npr,h.rel⟩
 rcases hF s with e|e
 · rw [e];exact h.tm s
 · rw [e];exact VR.undef
theorem TU {ops:Array Oper} {esc:List Nat} {pf:List FuncId} {pt:PT} {qt:QT} (hm:P.follows .mixedOrders=true) (hc:Uz P N esc pf pt ops=some qt) (hx:XT P K false qt F L σ)
 (h:Bd base g lam Pr N F L σ a w0 w) {id:Nat}:(Code.region id ops true).wp P (fun e a' w'=>e= .normal∧E7 base Pr N w0 g w K a' w') a w:=by
 simp only [Uz,AL,AB] at hc
 obtain ⟨qs0,hq0,ls,hls,hc⟩:=hc
 split at hc
 case isFalse=>cases hc
 rename_i hp
 simp only [AN,decide_eq_true_eq] at hp
 simp only [AE] at hc
 obtain ⟨t,ht,rfl⟩:=hc
 have hcl:Hi ops (ER ops.size false):=by
  intro j o ho hj
  have:(ER ops.size false).getD j false=false:=by
   simp only [Ce,Array.getElem?_replicate];split<;>rfl
  rw [this] at hj;cases hj
 obtain ⟨hcl2,hsz2⟩:=Q1 ls _ hp.1.1 hcl (by simp)
 have hx2:=Zj ls t F L hx
 have hany1:=(UW (P:=P) (K:=K) (fun j i=>TA) _ t ht).1 _ _ _ _ σ (A0 _) hp.1.2 hcl2 hsz2 hx2
 have hany2:=Xr (P:=P) (K:=K) (tab:=SE ops.toList #[]) (fun j i=>TA) ls _ F L σ (X2 _ ls hls) hp.1.1 hcl (by simp) hany1
 have hany:=XI _ ops.size _ _ _ _ hp.2 hany2
 refine wp_region_any hm ?_
 have hF:=h.sD (T3 (ls.map (·.2.1)) F)
 have hdrew:Bd base g lam Pr N (Lv (ls.map (·.2.1)) F) L σ a w0 { w with drawn:=w.drawn+1}:=
  hF.step (w':=w.drew) (Gh.le_refl g) (fun k b hb=>rfl) (hF.rel.grow (w':=w.drew) (A0 _) (fun _ _ _=>rfl) ((Below.refl base w).drew) (fun b hb=>⟨(hF.rel.pr b hb).1,.inl hb⟩))
 exact RE hq0 K _ _ base g lam Pr _ L σ a w0 _ hany hdrew (fun a' w' hA=>⟨rfl,E7.trans (Gh.le_refl g) ⟨A0 _,fun _ _=>rfl⟩ hA⟩)
def lin:QT→Option (List Q)
 | .done=>some []
 | .one q t=>(lin t).map (q::·)
 | .alt _ _ _=>none
theorem k8:∀(t:QT) (ops:List Q) (F:Fm) (L:Lm) (σ:AF),lin t=some ops→BU P K ops F L σ→XT P K false t F L σ
 | .done,ops,F,L,σ,h,hx=>by simp only [lin,AJ] at h;subst h;exact hx
 | .one q t,ops,F,L,σ,h,hx=>by
  simp only [lin,AE] at h
  obtain ⟨l,hl,rfl⟩:=h
  exact Mq (fun F L σ h=>k8 t l F L σ hl h) hx
 | .alt _ _ _,ops,F,L,σ,h,_=>by simp [lin] at h
end Go.Ab
