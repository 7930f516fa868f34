/- Regions that draw their order, continued: where operations do not commute, every order is looked at. Regions that draw their order, continued: new local variables may be laid first. Conditions: none. -/
import Derived.Test.YtifplkldbbcldaaGreatDoorXAb10b
set_option linter.unusedSimpArgs false
set_option linter.unusedVariables false
set_option maxRecDepth 4000
set_option maxHeartbeats 8000000
open Bool renaming false_eq_true→AU,and_eq_true→AM,or_eq_true→BR,not_eq_true'→CJ,not_eq_true→QW
open Option.some renaming injEq→AP
open List renaming all_eq_true→A6,contains_iff_mem→B1,mem_singleton→Di,mem_zipIdx_iff_getElem?→Sb,mem_append→BS,mem_cons→CK,range→I3
open Option renaming bind_eq_some_iff→AB,map_eq_some_iff→AJ,getD_some→QY,bind_some→BZ,bind_eq_bind→AS
open Array renaming getD_eq_getD_getElem?→C9,getElem?_eq_getElem→Le,replicate→E8
open Nat renaming le_refl→A7
namespace Go.Ab
open Go.RowKit
variable {P:Program} {base N:Nat} {g g':Gh} {Pr:Nat→Prop} {σ σ':AN} {w0 w w':World} {lam:Nat→Option Nat} {F:Fm} {L:Lm} {a:Act} {K:CX}
theorem fF {o:O} {dst:Option Nat} {K':CX} (hk:∀F L σ,K F L σ→K' F L σ) (hx:XO P dst K F L σ o):XO P dst K' F L σ o:=by
 by_cases hV:isV o=true
 · rw [kV hV] at hx ⊢
   obtain ⟨v,h1,h2⟩:=hx
   exact ⟨v,h1,hk _ _ _ h2⟩
 · cases o<;>simp only [isV,not_true_eq_false] at hV
   case box x sh=>
    simp only [XO,Sc] at hx ⊢
    refine ⟨hx.1,?_⟩
    have hx:=hx.2
    cases dst with
    |none=>exact hx.elim
    |some d=>cases sh with
     |true=>exact fun i hi=>hk _ _ _ (hx i hi)
     |false=>exact hk _ _ _ hx
   case al z sh=>
    simp only [XO,Sc] at hx ⊢
    refine ⟨hx.1,?_⟩
    have hx:=hx.2
    cases dst with
    |none=>exact hx.elim
    |some d=>cases sh with
     |true=>exact fun i hi=>hk _ _ _ (hx i hi)
     |false=>exact hk _ _ _ hx
   case st x v n=>
    simp only [XO,XSt] at hx ⊢
    obtain ⟨h1,h2,h3,h4⟩:=hx
    refine ⟨h1,h2,h3,?_⟩
    split at h4
    · exact hk _ _ _ h4
    · exact h4.elim
   case msl e s b z l c=>
    obtain ⟨k,k',n,h1,h2,h3,h4,h5,h6⟩:=hx
    exact ⟨k,k',n,h1,h2,h3,h4,h5,fun i hi=>hk _ _ _ (h6 i hi)⟩
   case Yh e s b x y=>
    obtain ⟨n,cs,σ1,srows,h1,h2,h3,h4,h5,h6,h7⟩:=hx
    exact ⟨n,cs,σ1,srows,h1,h2,h3,fun e=>hk _ _ _ (h4 e),h5,h6,fun e t ht=>hk _ _ _ (h7 e t ht)⟩
   case trn x y=>
    obtain ⟨k,s,e,cs,σ1,h1,h2⟩:=hx
    exact ⟨k,s,e,cs,σ1,h1,fun t ht=>hk _ _ _ (h2 t ht)⟩
   case M4 e s l z ps=>
    obtain ⟨cs,h1,h2⟩:=hx
    exact ⟨cs,h1,h2.imp (fun h2 t ht=>hk _ _ _ (h2 t ht)) fun ⟨ds,h3,h4,h5⟩=>⟨ds,h3,h4,fun t ht=>hk _ _ _ (h5 t ht)⟩⟩
   case app e s b x y=>
    rcases hx with ⟨rows,σ1,srows,h1,h2,h3,h4,h5,h6⟩|⟨rows,srows,h1,h2,h3,h4,h5,h6,h7⟩
    · exact .inl ⟨rows,σ1,srows,h1,h2,h3,h4,h5,fun t ht=>hk _ _ _ (h6 t ht)⟩
    · exact .inr ⟨rows,srows,h1,h2,h3,h4,h5,h6,hk _ _ _ h7⟩
   case call f args=>
    obtain ⟨h1,R,h2,h3⟩:=hx
    exact ⟨h1,R,h2,fun v σ' hv=>hk _ _ _ (h3 v σ' hv)⟩
   case EN x args=>
    obtain ⟨f,first,caps,h0,hb,h1,R,h2,h3⟩:=hx
    exact ⟨f,first,caps,h0,hb,h1,R,h2,fun v σ' hv=>hk _ _ _ (h3 v σ' hv)⟩
   case ex k xs=>
    simp only [XO,XEx,hV,AU,if_false] at hx ⊢
    exact ⟨hx.1,hx.2.mono fun v σ' _ hv=>hk _ _ _ hv⟩
theorem T6 {q:Q} {K':CX} (hk:∀F L σ,K F L σ→K' F L σ) (hx:XQ P q K F L σ):XQ P q K' F L σ:=by
 unfold XQ at hx ⊢
 cases hc:gd F q.grd with
 |none=>rw [hc] at hx;exact hx.elim
 |some b=>
  rw [hc] at hx
  cases b
  · exact hk _ _ _ hx
  · exact fF hk hx
inductive PT where
 |done
 |one (i:Nat) (t:PT)
 |alt (i:Nat) (t r:PT)
 |lay (i:Nat) (t:PT)
inductive QT where
 |done
 |one (q:Q) (t:QT)
 |alt (q:Q) (t r:QT)
def XT (P:Program) (K:CX):Bool→QT→CX
 |false,.done=>K
 |true,.done=>fun _ _ _=>True
 |_,.one q t=>XQ P q (XT P K false t)
 |_,.alt q t r=>fun F L σ=>XQ P q (XT P K false t) F L σ∧XT P K true r F L σ
def PT.depth:PT→Nat
 | .done=>0
 | .one _ t=>t.depth+1
 | .alt _ t r=>max (t.depth+1) r.depth
 | .lay _ t=>t.depth+1
def Uj (qs:List Q):PT→Option QT
 | .done=>some .done
 | .one i t=>(qs[i]?).bind fun q=>(Uj qs t).map (.one q ·)
 | .alt i t r=>(qs[i]?).bind fun q=>(Uj qs t).bind fun t'=>(Uj qs r).map (.alt q t' ·)
 | .lay i t=>(qs[i]?).bind fun q=>(Uj qs t).map (.one q ·)
def Mv (ops:Array Oper) (tab:Array Nat) (qs:List Q):PT→Array Bool→Option (List Nat)→Bool
 | .done,listed,none=>(Region.ready .any ops listed).isEmpty
 | .done,listed,some l=>(Region.ready .any ops listed).all (l.contains ·)
 | .one i t,listed,none=>(Region.ready .any ops listed).contains i&&(Region.ready .any ops listed==[i]||Wg tab qs listed i)&&Mv ops tab qs t (listed.setIfInBounds i true) none
 | .one i t,listed,some l=>(Region.ready .any ops listed).contains i&&(Region.ready .any ops listed).all (fun j=>j==i||l.contains j)&&Mv ops tab qs t (listed.setIfInBounds i true) none
 | .alt i t r,listed,e=>(Region.ready .any ops listed).contains i&&Mv ops tab qs t (listed.setIfInBounds i true) none&&Mv ops tab qs r listed (some (i::e.getD []))
 | .lay _ _,_,_=>false
theorem Wl {ops:Array Oper} {tab:Array Nat} (htab:∀j i,(tab.getD j 0).testBit i=true→Anc ops j i) {qs:List Q}:∀(t:PT) (qt:QT),Uj qs t=some qt→
 (∀n listed F L σ,t.depth≤n→Mv ops tab qs t listed none=true→Ib ops listed→listed.size=ops.size→XT P K false qt F L σ→Uw P ops qs K n listed F L σ)∧
 (∀n listed l F L σ,t.depth≤n+1→Mv ops tab qs t listed (some l)=true→Ib ops listed→listed.size=ops.size→XT P K true qt F L σ→
   ∀j∈Region.ready .any ops listed,j ∉ l→∃q,qs[j]?=some q∧XQ P q (Uw P ops qs K n (listed.setIfInBounds j true)) F L σ)
 | .done,qt,hp=>by
  simp only [Uj,AP] at hp;subst hp
  refine ⟨fun n listed F L σ _ hp _ _ hx=>?_,fun n listed l F L σ _ hp _ _ _ j hj hjl=>?_⟩
  · simp only [Mv,List.isEmpty_iff] at hp
    cases n with
    |zero=>exact ⟨hp,hx⟩
    |succ n=>exact ⟨fun _=>hx,fun i hi=>by rw [hp] at hi;cases hi⟩
  · simp only [Mv,A6,B1] at hp
    exact absurd (hp j hj) hjl
 | .one i t,qt,hp=>by
  simp only [Uj,AB,AJ] at hp
  obtain ⟨q,hq,t',ht',rfl⟩:=hp
  obtain ⟨ih,_⟩:=Wl htab t t' ht'
  refine ⟨fun n listed F L σ hd hp hcl hsz hx=>?_,fun n listed l F L σ hd hp hcl hsz hx j hj hjl=>?_⟩
  · simp only [PT.depth] at hd
    obtain ⟨m,rfl⟩:∃m,n=m+1:=⟨n - 1,by omega⟩
    simp only [Mv,AM,BR,B1,beq_iff_eq] at hp
    obtain ⟨⟨hr,hok⟩,hrest⟩:=hp
    have hx:XQ P q (XT P K false t') F L σ:=hx
    have ih':=fun F L σ=>ih m (listed.setIfInBounds i true) F L σ (by omega) hrest (hcl.set hr) (by simpa using hsz)
    rcases hok with hok|hok
    · refine ⟨fun h=>(by rw [h] at hr;cases hr),fun j hj=>?_⟩
      rw [hok] at hj
      simp only [Di] at hj
      subst hj
      exact ⟨_,hq,T6 (fun F L σ h=>ih' F L σ h) hx⟩
    · unfold Wg at hok
      rw [hq] at hok
      simp only [AM,A6] at hok
      obtain ⟨v,hy,hk⟩:=(oG hok.1 _).1 hx
      refine Yc htab hq hok.1 m listed F L σ v hcl hsz (fun j qj hj hji hun=>?_) hr hy (ih' _ _ _ hk)
      have hmem:(qj,j)∈qs.zipIdx:=by
       rw [Sb];exact hj
      have:=hok.2 (qj,j) hmem
      simp only [BR,beq_iff_eq] at this
      rcases this with (h|h)|h
      · exact absurd h hji
      · rw [hun] at h;cases h
      · exact h
  · simp only [PT.depth] at hd
    simp only [Mv,AM,A6,B1,BR,beq_iff_eq] at hp
    obtain ⟨⟨hr,hall⟩,hrest⟩:=hp
    have hx:XQ P q (XT P K false t') F L σ:=hx
    rcases hall j hj with rfl|h
    · exact ⟨q,hq,T6 (fun F L σ h=>ih n _ F L σ (by omega) hrest (hcl.set hr) (by simpa using hsz) h) hx⟩
    · exact absurd h hjl
 | .alt i t r,qt,hp=>by
  simp only [Uj,AB,AJ] at hp
  obtain ⟨q,hq,t',ht',r',hr',rfl⟩:=hp
  obtain ⟨ih,_⟩:=Wl htab t t' ht'
  obtain ⟨_,ihr⟩:=Wl htab r r' hr'
  refine ⟨fun n listed F L σ hd hp hcl hsz hx=>?_,fun n listed l F L σ hd hp hcl hsz hx j hj hjl=>?_⟩
  · simp only [PT.depth] at hd
    obtain ⟨m,rfl⟩:∃m,n=m+1:=⟨n - 1,by omega⟩
    simp only [Mv,AM,B1,Option.getD_none] at hp
    obtain ⟨⟨hr,hrest⟩,hp2⟩:=hp
    obtain ⟨hx1,hx2⟩:=hx
    refine ⟨fun h=>(by rw [h] at hr;cases hr),fun j hj=>?_⟩
    by_cases hji:j=i
    · subst hji
      exact ⟨q,hq,T6 (fun F L σ h=>ih m _ F L σ (by omega) hrest (hcl.set hr) (by simpa using hsz) h) hx1⟩
    · exact ihr m listed [i] F L σ (by omega) hp2 hcl hsz hx2 j hj (by simpa using hji)
  · simp only [PT.depth] at hd
    simp only [Mv,AM,B1,QY] at hp
    obtain ⟨⟨hr,hrest⟩,hp2⟩:=hp
    obtain ⟨hx1,hx2⟩:=hx
    by_cases hji:j=i
    · subst hji
      exact ⟨q,hq,T6 (fun F L σ h=>ih n _ F L σ (by omega) hrest (hcl.set hr) (by simpa using hsz) h) hx1⟩
    · exact ihr n listed (i::l) F L σ (by omega) hp2 hcl hsz hx2 j hj (by simp [hji,hjl])
 | .lay i t,qt,hp=>⟨fun n listed F L σ _ hp=>by simp [Mv] at hp,fun n listed l F L σ _ hp=>by simp [Mv] at hp⟩
end Go.Ab
namespace Go.Ab
open Go.RowKit
variable {P:Program} {base N:Nat} {g g':Gh} {Pr:Nat→Prop} {σ σ':AN} {w0 w w':World} {lam:Nat→Option Nat} {F:Fm} {L:Lm} {a:Act} {K:CX} {d:Nat} {z:List AV}
theorem VR.BQ {x:AV} {v:Value} (h:VR g x v) (d:Nat):x.BQ d=false:=by cases h<;>rfl
theorem VW {x:AV} (h:x.At=true) (d:Nat):x.BQ d=false:=by cases x<;>first|rfl|(cases h;done)
theorem dA {x:AV} (h:x.CQ=true) (d:Nat):x.BQ d=false:=by cases x<;>first|rfl|(cases h;done)
theorem AQ.BQ {f:FuncId} {args:List AV} {Q:AV→AN→Prop} (h:AQ P f args σ Q) (d:Nat):AQ P f args σ (fun v σ'=>Q v σ'∧v.BQ d=false):=
 fun base g Pr w0 w vs hr hv=>(h base g Pr w0 w vs hr hv).mono fun _ _ ⟨v,av,g',σ',a,b,c,d',e,q⟩=>⟨v,av,g',σ',a,b,c,d',e,q,b.BQ d⟩
def Off (d:Nat) (F:Fm):Prop:=∀s,(F s).BQ d=false
theorem Off.An (h:Off d F) {dst:Option Nat} {v:AV} (hv:v.BQ d=false):Off d (An dst v F):=by
 intro s
 cases dst with
 |none=>exact h s
 |some k=>
  simp only [Ab.An,Ab.put]
  split
  · exact hv
  · exact h s
theorem Off.DD (h:Off d F) (k:Nat):Off d (DD k F):=by
 intro s
 simp only [Ab.DD]
 split
 · rfl
 · exact h s
theorem Za (d:Nat) (F:Fm):Off d (DD d F):=by
 intro s
 simp only [DD]
 split
 · rfl
 · rename_i h;simpa using h
def cOk:X→Bool
 | .t _=>true
 | .c v=>v.At
theorem SS (h:Off d F) {x:X} (hx:cOk x=true):(xv F x).BQ d=false:=by
 cases x with
 |t n=>exact h n
 |c v=>exact VW hx d
def SZ:O→Bool
 | .mv x| .fld x _| .ld x _| .ldl x _| .nck x=>cOk x
 | .pick _ x y=>cOk x&&cOk y
 | .st x _ _=>cOk x
 |_=>true
theorem bI {k:Nat} (h:k≠d) (z:List AV) (L:Lm):B4 d z L k=L k:=by simp [B4,h]
theorem tL {p:AV} (hp:p.BQ d=false) (n:Option Nat):ldA (B4 d z L) σ p n=ldA L σ p n:=by
 cases p<;>try rfl
 · rename_i dx;cases dx<;>rfl
 rename_i k o
 have:k≠d:=by simpa [AV.BQ] using hp
 simp [ldA,bI this]
theorem pX {p:AV} (hp:p.BQ d=false) (n:Option Nat):aX (B4 d z L) p n=aX L p n:=by
 cases p<;>try rfl
 rename_i k o
 have:k≠d:=by simpa [AV.BQ] using hp
 simp [aX,bI this]
theorem yO (h:Off d F) {o:O} (hc:SZ o=true):pv F (B4 d z L) σ o=pv F L σ o:=by
 cases o<;>try rfl
 case ld x n=>exact tL (SS h hc) n
 case ldl x n=>exact pX (SS h hc) n
theorem S6 {cs:List AV} {o:Nat} {n:Option Nat} {v:AV} (h:rdC cs o n=some v):v.BQ d=false:=by
 cases n with
 |none=>
  simp only [rdC,AB] at h
  obtain ⟨v0,_,h⟩:=h
  obtain ⟨rfl,hc⟩:=Td h
  exact dA hc d
 |some n=>
  simp only [rdC] at h
  split at h
  · cases h;rfl
  · cases h
theorem pK {op:BinOp} {k:IntKind} {x y:Int} {v:AV} (h:lW op k x y=some v):v.BQ d=false:=by
 unfold lW at h
 split at h<;>first|(cases h;rfl)|(split at h<;>first|(cases h;done)|(cases h;rfl))|(cases h;done)
theorem rX {op:BinOp} {x y:List UInt8} {v:AV} (h:bT op x y=some v):v.BQ d=false:=by
 unfold bT at h
 split at h<;>first|(cases h;rfl)|(split at h<;>first|(cases h;done)|(cases h;rfl))|(cases h;done)
theorem kA {b:Bool} {x y v:AV} (h:mmA b x y=some v):v.BQ d=false:=by
 unfold mmA at h
 split at h
 · split at h
   · cases h;rfl
   · cases h
 · cases h
theorem aQ {rows:List (List DV)} {m:Int} {n:Nat} {v:AV} (h:ixR rows m n=some v):v.BQ d=false:=by
 unfold ixR at h
 split at h
 · simp only [AB] at h
   obtain ⟨r,_,h⟩:=h
   split at h
   · cases h;rfl
   · cases h
 · cases h
theorem s9 {k:EK} {args:List AV} {v:AV} (h:exP k args=some v):v.BQ d=false:=by
 obtain ⟨_,h⟩:=Wa h
 unfold TR at h
 split at h
 · cases h;rfl
 · simp only [AJ] at h;obtain ⟨_,_,rfl⟩:=h;rfl
 · simp only [AJ] at h;obtain ⟨_,_,rfl⟩:=h;rfl
 · cases h
theorem uV (h:Off d F) {o:O} (hc:SZ o=true) {v:AV} (hv:pv F L σ o=some v):v.BQ d=false:=by
 cases o<;>simp only [pv] at hv<;>try (cases hv;done)
 case mv x=>cases hv;exact SS h hc
 case ex k xs=>exact s9 hv
 case pick c x y=>
  simp only [SZ,AM] at hc
  unfold dW at hv
  split at hv
  · cases hv;split
    · exact SS h hc.1
    · exact SS h hc.2
  · cases hv
 case fld x off=>
  have hx:=SS h hc
  generalize xv F x=p at hv hx
  cases p<;>simp only [gI] at hv<;>try (cases hv;done)
  · rename_i dx;cases dx<;>simp only at hv<;>first|(cases hv;done)|(cases hv;rfl)
  · cases hv;exact hx
  · cases hv;rfl
  · cases hv;rfl
 case ld x n=>
  generalize xv F x=p at hv
  cases p<;>simp only [ldA] at hv<;>try (cases hv;done)
  · rename_i dx;cases dx<;>simp only at hv<;>first|(cases hv;done)|exact S6 hv
  · simp only [AB] at hv;obtain ⟨_,_,hv⟩:=hv;exact S6 hv
  · simp only [AB] at hv;obtain ⟨_,_,hv⟩:=hv;exact S6 hv
  · exact S6 hv
 case ldl x n=>
  generalize xv F x=p at hv
  cases p<;>simp only [aX] at hv<;>try (cases hv;done)
  simp only [AB] at hv;obtain ⟨_,_,hv⟩:=hv;exact S6 hv
 case ix x i n=>
  unfold ixA at hv
  split at hv
  · split at hv
    · cases hv;rfl
    · cases hv
  · split at hv
    · cases hv;rfl
    · cases hv
  · exact aQ hv
  · exact aQ hv
  · exact aQ hv
  · cases hv
 case OI x i=>
  unfold YU at hv
  split at hv
  · split at hv
    · simp only [AJ] at hv;obtain ⟨_,_,rfl⟩:=hv;rfl
    · cases hv
  · cases hv
 case len x=>
  unfold So at hv
  split at hv<;>first|(cases hv;rfl)|(cases hv;done)
 case H5 x=>
  unfold Zl at hv
  split at hv<;>first|(cases hv;rfl)|(cases hv;done)
 case bin op x y=>
  unfold k9 at hv
  split at hv
  · split at hv
    · exact pK hv
    · cases hv
  · exact rX hv
  · cases hv
 case lB op x y=>
  unfold ZV at hv
  split at hv<;>first|(cases hv;rfl)|(cases hv;done)
 case un op x=>
  unfold unA at hv
  split at hv<;>first|(cases hv;rfl)|(cases hv;done)
 case conv k x=>
  unfold Z0 at hv
  split at hv<;>first|(cases hv;rfl)|(cases hv;done)
 case bld z ps=>simp only [AJ] at hv;obtain ⟨_,_,rfl⟩:=hv;rfl
 case bsl s n z ps=>simp only [AJ] at hv;obtain ⟨_,_,rfl⟩:=hv;rfl
 case mkf f x y=>
  split at hv
  · cases hv;rfl
  · cases hv
 case ext x i=>
  unfold lN at hv
  split at hv
  · simp only [AB] at hv
    obtain ⟨v0,_,hv⟩:=hv
    obtain ⟨rfl,hn⟩:=Xq hv
    exact VW hn d
  · cases hv
 case nck x=>
  have hx:=SS h hc
  generalize xv F x=p at hv hx
  cases p<;>simp only [qM] at hv<;>try (cases hv;done)
  · rename_i dx;cases dx<;>simp only at hv<;>first|(cases hv;done)|(cases hv;rfl)
  · cases hv;exact hx
  · cases hv;rfl
  · cases hv;rfl
 case mm b x y=>exact kA hv
 case fd x off n=>
  generalize xv F x=p at hv
  cases p<;>simp only [fdA] at hv<;>try (cases hv;done)
  exact S6 hv
 case ssl x lo hi=>
  unfold SI at hv
  split at hv
  · simp only [AJ] at hv;obtain ⟨_,_,rfl⟩:=hv;rfl
  · cases hv
 case sls x lo hi mx n=>
  unfold nM at hv
  split at hv
  · split at hv
    · cases hv;rfl
    · cases hv
  · simp only [AB] at hv
    obtain ⟨_,_,hv⟩:=hv
    split at hv
    · cases hv;rfl
    · cases hv
  · simp only [AB] at hv
    obtain ⟨_,_,hv⟩:=hv
    split at hv
    · cases hv;rfl
    · cases hv
  simp only [AB] at hv
  obtain ⟨rows,_,hv⟩:=hv
  unfold bR at hv
  split at hv
  · simp only [AB] at hv
    obtain ⟨b,_,hv⟩:=hv
    split at hv
    · cases hv;rfl
    · split at hv
      · cases hv;rfl
      · cases hv
    · cases hv
  · cases hv
 case iH ne x=>
  unfold Zg at hv
  split at hv<;>first|(cases hv;rfl)|(cases hv;done)
 case iW ne n x y=>
  unfold Zm at hv
  split at hv
  · split at hv
    · simp only [AJ] at hv;obtain ⟨_,_,rfl⟩:=hv;rfl
    · cases hv
  · cases hv
 case mm3 b x y z=>
  simp only [AB] at hv
  obtain ⟨_,_,hv⟩:=hv
  exact kA hv
 case oQ x=>simp only [AJ] at hv;obtain ⟨_,_,rfl⟩:=hv;rfl
theorem Dq {dst:Option Nat} (h:dst≠some d) (v x:AV) (F:Fm):An dst v (put d x F)=put d x (An dst v F):=
 V2 (d:=dst) (e:=some d) (fun k hk he=>h (by rw [hk,he])) v x F
theorem Rw {k:Nat} (h:d≠k) (F:Fm):DD k (put d (.lp d 0) F)=put d (.lp d 0) (DD k F):=by
 funext s
 simp only [DD,put]
 by_cases e:s=d
 · subst e;simp [AV.BQ,h]
 · simp [e]
theorem V1 {k:Nat} (h:k≠d) (x y:List AV) (L:Lm):B4 k x (B4 d y L)=B4 d y (B4 k x L):=by
 funext s
 simp only [B4]
 by_cases e:s=k
 · subst e;simp [h]
 · simp [e]
theorem wS {o:O} {dst:Option Nat} (hN:Off d F) (hc:SZ o=true) (hl:∀s∈JE o,s≠d) (hd:dst≠some d) (hx:XO P dst K (put d (.lp d 0) F) (B4 d z L) σ o):
 XO P dst (fun F' L' σ'=>Off d F'∧K (put d (.lp d 0) F') (B4 d z L') σ') F L σ o:=by
 have hF:∀s∈JE o,put d (.lp d 0) F s=F s:=fun s hs=>by simp [put,hl s hs]
 by_cases hV:isV o=true
 · rw [kV hV] at hx ⊢
   obtain ⟨u,h1,h2⟩:=hx
   have h1:=Wy hF h1
   have h3:Yv P F L σ u o∧u.BQ d=false:=by
    cases o<;>try (cases hV;done)
    case Vv f args=>exact ⟨h1,VW h1.2.1 d⟩
    all_goals
     simp only [Yv] at h1 ⊢
     rw [yO hN hc] at h1
     exact ⟨h1,uV hN hc h1⟩
   refine ⟨u,h3.1,hN.An h3.2,?_⟩
   rw [← Dq hd];exact h2
 · cases o<;>simp only [isV,not_true_eq_false] at hV<;>simp only [JE,BS] at hF
   case box x sh=>
    simp only [XO,Sc] at hx ⊢
    rw [← Az hF]
    refine ⟨hx.1,?_⟩
    have hx:=hx.2
    cases dst with
    |none=>exact hx.elim
    |some e=>
     have hne:d≠e:=fun h=>hd (by rw [h])
     cases sh with
     |true=>exact fun i hi=>⟨hN.An (dst:=some e) (v:= .gp i 0) rfl,by have:=hx i hi;rw [show put e (.gp i 0) (put d (.lp d 0) F)=put d (.lp d 0) (put e (.gp i 0) F) from Dq (dst:=some e) hd _ _ _] at this;exact this⟩
     |false=>
      refine ⟨(hN.DD e).An (dst:=some e) (v:= .lp e 0) (by simp [AV.BQ];exact Ne.symm hne),?_⟩
      have hx:K (put e (.lp e 0) (DD e (put d (.lp d 0) F))) (B4 e (xv (put d (.lp d 0) F) x).cells (B4 d z L)) σ:=hx
      rw [Rw hne,V1 (Ne.symm hne),show put e (.lp e 0) (put d (.lp d 0) (DD e F))=put d (.lp d 0) (put e (.lp e 0) (DD e F)) from Dq (dst:=some e) hd _ _ _] at hx
      exact hx
   case al y sh=>
    simp only [XO,Sc] at hx ⊢
    refine ⟨hx.1,?_⟩
    have hx:=hx.2
    cases dst with
    |none=>exact hx.elim
    |some e=>
     have hne:d≠e:=fun h=>hd (by rw [h])
     cases sh with
     |true=>exact fun i hi=>⟨hN.An (dst:=some e) (v:= .gp i 0) rfl,by have:=hx i hi;rw [show put e (.gp i 0) (put d (.lp d 0) F)=put d (.lp d 0) (put e (.gp i 0) F) from Dq (dst:=some e) hd _ _ _] at this;exact this⟩
     |false=>
      refine ⟨(hN.DD e).An (dst:=some e) (v:= .lp e 0) (by simp [AV.BQ];exact Ne.symm hne),?_⟩
      have hx:K (put e (.lp e 0) (DD e (put d (.lp d 0) F))) (B4 e y (B4 d z L)) σ:=hx
      rw [Rw hne,V1 (Ne.symm hne),show put e (.lp e 0) (put d (.lp d 0) (DD e F))=put d (.lp d 0) (put e (.lp e 0) (DD e F)) from Dq (dst:=some e) hd _ _ _] at hx
      exact hx
   case st x y n=>
    simp only [XO,XSt] at hx ⊢
    rw [Az (F:=put d (.lp d 0) F) (F':=F) (fun s hs=>hF s (.inl hs)),Az (F:=put d (.lp d 0) F) (F':=F) (fun s hs=>hF s (.inr hs))] at hx
    obtain ⟨h1,h2,h3,h4⟩:=hx
    refine ⟨h1,h2,h3,?_⟩
    have hp:=SS hN hc
    generalize xv F x=p at hp h4
    cases p<;>simp only [stA] at h4 ⊢<;>try (exact h4.elim)
    · rename_i k o2
      have hk:k≠d:=by simpa [AV.BQ] using hp
      rw [bI hk] at h4
      cases hL:L k with
      |none=>rw [hL] at h4;exact h4.elim
      |some cs=>
       rw [hL] at h4
       simp only [BZ] at h4 ⊢
       by_cases hle:o2+(xv F y).cells.length≤cs.length
       · rw [if_pos hle] at h4 ⊢
         refine ⟨hN,?_⟩
         have h4:K (put d (.lp d 0) F) (B4 k (wr cs o2 (xv F y).cells) (B4 d z L)) σ:=h4
         rw [V1 hk] at h4;exact h4
       · rw [if_neg hle] at h4;exact h4.elim
    · rename_i i o2
      cases hb:σ.blk i with
      |none=>rw [hb] at h4;exact h4.elim
      |some cs=>
       rw [hb] at h4
       simp only [BZ] at h4 ⊢
       by_cases hle:o2+(xv F y).cells.length≤cs.length
       · rw [if_pos hle] at h4 ⊢;exact ⟨hN,h4⟩
       · rw [if_neg hle] at h4;exact h4.elim
   case msl e s b y l c=>
    obtain ⟨k,k',n,h1,h2,h3,h4,h5,h6⟩:=hx
    refine ⟨k,k',n,by rw [← Az (fun s hs=>hF s (.inl hs))];exact h1,by rw [← Az (fun s hs=>hF s (.inr hs))];exact h2,h3,h4,h5,fun i hi=>⟨hN.An rfl,?_⟩⟩
    rw [← Dq hd];exact h6 i hi
   case app e s b x y=>
    rcases hx with ⟨rows,σ1,srows,h1,h2,h3,h4,h5,h6⟩|⟨rows,srows,h1,h2,h3,h4,h5,h6,h7⟩
    · refine .inl ⟨rows,σ1,srows,by rw [← Az (fun s hs=>hF s (.inl hs))];exact h1,by rw [← Az (fun s hs=>hF s (.inr hs))];exact h2,h3,h4,h5,fun t ht=>⟨hN.An rfl,?_⟩⟩
      rw [← Dq hd];exact h6 t ht
    · refine .inr ⟨rows,srows,by rw [← Az (fun s hs=>hF s (.inl hs))];exact h1,by rw [← Az (fun s hs=>hF s (.inr hs))];exact h2,h3,h4,h5,h6,⟨hN.An rfl,?_⟩⟩
      rw [← Dq hd];exact h7
   case Yh e s b x y=>
    obtain ⟨n,cs,σ1,srows,h1,h2,h3,h4,h5,h6,h7⟩:=hx
    refine ⟨n,cs,σ1,srows,by rw [← Az (fun s hs=>hF s (.inl hs))];exact h1,by rw [← Az (fun s hs=>hF s (.inr hs))];exact h2,h3,fun e=>⟨hN.An ?_,?_⟩,h5,h6,fun e t ht=>⟨hN.An rfl,?_⟩⟩
    · unfold TC at h1
      rw [← Az (fun s hs=>hF s (.inl hs))]
      generalize xv _ x=xx at h1
      cases xx<;>first|rfl|(cases h1;done)
    · rw [← Dq hd,← Az (fun s hs=>hF s (.inl hs))];exact h4 e
    · rw [← Dq hd];exact h7 e t ht
   case trn x y=>
    obtain ⟨k,s,e,cs,σ1,h1,h2⟩:=hx
    refine ⟨k,s,e,cs,σ1,by rw [← Az (fun s hs=>hF s (.inl hs)),← Az (fun s hs=>hF s (.inr hs))];exact h1,fun t ht=>⟨hN.An rfl,?_⟩⟩
    rw [← Dq hd];exact h2 t ht
   case M4 e s l y ps=>
    obtain ⟨cs,h1,h2⟩:=hx
    refine ⟨cs,by rw [← Na _ _ hF];exact h1,h2.imp (fun h2 t ht=>⟨hN.An rfl,?_⟩) fun ⟨ds,h3,h4,h5⟩=>⟨ds,h3,h4,fun t ht=>⟨hN.An rfl,?_⟩⟩⟩
    · rw [← Dq hd];exact h2 t ht
    · rw [← Dq hd];exact h5 t ht
   case call f args=>
    obtain ⟨h1,R,h2,h3⟩:=hx
    rw [GY hF] at h1 h2
    refine ⟨h1,_,h2.BQ d,fun u σ' hv=>⟨hN.An hv.2,?_⟩⟩
    rw [← Dq hd];exact h3 u σ' hv.1
   case EN x args=>
    obtain ⟨f,first,caps,h0,hb,h1,R,h2,h3⟩:=hx
    rw [GY (fun s hs=>hF s (.inr hs))] at h1 h2
    refine ⟨f,first,caps,by rw [← Az (fun s hs=>hF s (.inl hs))];exact h0,hb,h1,_,h2.BQ d,fun u σ' hv=>⟨hN.An hv.2,?_⟩⟩
    rw [← Dq hd];exact h3 u σ' hv.1
   case ex k xs=>
    simp only [XO,XEx,hV,AU,if_false] at hx ⊢
    rw [GY hF] at hx
    refine ⟨hx.1,hx.2.mono fun u σ' hu hv=>⟨hN.An (hu d),?_⟩⟩
    rw [← Dq hd];exact hv
theorem wU {q:Q} (hN:Off d F) (hc:SZ q.o=true) (hl:∀s∈q.looks,s≠d) (hd:q.dst≠some d) (hx:XQ P q K (put d (.lp d 0) F) (B4 d z L) σ):
 XQ P q (fun F' L' σ'=>Off d F'∧K (put d (.lp d 0) F') (B4 d z L') σ') F L σ:=by
 have h1:∀s∈JE q.o,s≠d:=fun s hs=>hl s (by simp [Q.looks,hs])
 unfold XQ at hx ⊢
 rw [X6 (F:=put d (.lp d 0) F) (F':=F) (fun s hs=>by simp [put,hl s hs])] at hx
 cases hc2:gd F q.grd with
 |none=>rw [hc2] at hx;exact hx.elim
 |some b=>
  rw [hc2] at hx
  cases b
  · have hx:K (An q.dst (.tup []) (put d (.lp d 0) F)) (B4 d z L) σ:=hx
    rw [Dq hd] at hx
    exact ⟨hN.An rfl,hx⟩
  · exact wS hN hc h1 hd hx
theorem nG (h:Off d F):DD d F=F:=by
 funext s
 simp [DD,h s]
def wG (tab:Array Nat) (qs:List Q) (i d:Nat):Bool:=
 qs.zipIdx.all fun (qj,j)=>j==i||(tab.getD j 0).testBit i||(SZ qj.o&& !qj.looks.contains d&&qj.dst != some d)
theorem vI {ops:Array Oper} {tab:Array Nat} (htab:∀j i,(tab.getD j 0).testBit i=true→Anc ops j i) {qs:List Q} {i:Nat} (hi:qs[i]?=some ⟨some d,.al z false,none⟩) (hz:Ag z=true) (hlay:wG tab qs i d=true):
 ∀(fuel:Nat) (listed:Array Bool) (F:Fm) (L:Lm) (σ:AN),Ib ops listed→listed.size=ops.size→i∈Region.ready .any ops listed→Off d F→
  Uw P ops qs K fuel (listed.setIfInBounds i true) (put d (.lp d 0) F) (B4 d z L) σ→Uw P ops qs K (fuel+1) listed F L σ:=by
 have hself:∀(K2:CX) (F:Fm) (L:Lm) (σ:AN),Off d F→K2 (put d (.lp d 0) F) (B4 d z L) σ→XQ P ⟨some d,.al z false,none⟩ K2 F L σ:=fun K2 F L σ hN h=>by
  show Sc z false (some d) K2 F L σ
  refine ⟨hz,?_⟩
  show K2 (put d (.lp d 0) (DD d F)) (B4 d z L) σ
  rw [nG hN];exact h
 intro fuel
 induction fuel with
 |zero=>
  intro listed F L σ hcl hsz hr hN H
  refine ⟨fun h=>(by rw [h] at hr;cases hr),fun j hj=>?_⟩
  by_cases hji:i=j
  · subst hji;exact ⟨_,hi,hself _ _ _ _ hN H⟩
  · have:=Og hj hji
    rw [H.1] at this;cases this
 |succ fuel ih=>
  intro listed F L σ hcl hsz hr hN H
  refine ⟨fun h=>(by rw [h] at hr;cases hr),fun j hj=>?_⟩
  by_cases hji:i=j
  · subst hji;exact ⟨_,hi,hself _ _ _ _ hN H⟩
  · obtain ⟨qj,hqj,hxj⟩:=H.2 j (Og hj hji)
    obtain ⟨hjlt,hjun,oj,hoj,hjall⟩:=KQ.1 hj
    have hiun:=(KQ.1 hr).2.1
    have hilt:=(KQ.1 hr).1
    have hmem:(qj,j)∈qs.zipIdx:=by rw [Sb];exact hqj
    have hb:=A6.1 hlay (qj,j) hmem
    simp only [BR,beq_iff_eq,AM,CJ,bne_iff_ne] at hb
    rcases hb with (hb|hanc)|⟨⟨hc,hlk⟩,hdst⟩
    · exact absurd hb.symm hji
    · have h1:=XB hcl (htab j i hanc) (fun o ho=>by rw [hoj] at ho;cases ho;exact hjall)
      rw [C9,Le (by omega)] at h1 hiun
      simp at h1 hiun
      rw [h1] at hiun;cases hiun
    · refine ⟨qj,hqj,?_⟩
      have hlk':∀s∈qj.looks,s≠d:=fun s hs he=>by subst he;rw [← QW,B1] at hlk;exact hlk hs
      have hcomm:(listed.setIfInBounds i true).setIfInBounds j true=(listed.setIfInBounds j true).setIfInBounds i true:=Array.setIfInBounds_comm _ _ hji
      refine T6 (fun F' L' σ' h=>?_) (wU hN hc hlk' hdst hxj)
      refine ih _ F' L' σ' (hcl.set hj) (by simpa using hsz) (Og hr (Ne.symm hji)) h.1 ?_
      rw [← hcomm];exact h.2
def OB:List Nat→Fm→Fm
 |[],F=>F
 |d::ds,F=>OB ds (DD d F)
theorem Vx:∀(ds:List Nat) (F:Fm) (s:Nat),OB ds F s=F s∨OB ds F s= .undef
 |[],F,s=>.inl rfl
 |d::ds,F,s=>by
  rcases Vx ds (DD d F) s with h|h
  · rw [OB,h];simp only [DD];split<;>simp
  · exact .inr h
theorem Xy:∀(ds:List Nat) (F:Fm) (d:Nat),(d∈ds∨Off d F)→Off d (OB ds F)
 |[],F,d,h=>by
  rcases h with h|h
  · cases h
  · exact h
 |e::ds,F,d,h=>by
  refine Xy ds (DD e F) d ?_
  rcases h with h|h
  · cases h with
    |head=>exact .inr (Za _ F)
    |tail _ h=>exact .inl h
  · exact .inr (h.DD e)
theorem Xz:∀(ds:List Nat) (F:Fm) (d:Nat),d ∉ ds→OB ds (put d (.lp d 0) F)=put d (.lp d 0) (OB ds F)
 |[],F,d,_=>rfl
 |e::ds,F,d,h=>by
  simp only [CK,not_or] at h
  simp only [OB]
  rw [Rw h.1,Xz ds _ d h.2]
def PD:PT→List Nat×PT
 | .lay i t=>(i::(PD t).1,(PD t).2)
 |t=>([],t)
def pV (qs:List Q):List Nat→Option (List (Nat×Nat×List AV))
 |[]=>some []
 |i::l=>match qs[i]? with
  |some ⟨some d,.al z false,none⟩=>if Ag z then (pV qs l).map ((i,d,z)::·) else none
  |_=>none
def VP (ops:Array Oper) (tab:Array Nat) (qs:List Q):List (Nat×Nat×List AV)→Array Bool→Bool
 |[],_=>true
 |(i,d,_)::r,listed=>(Region.ready .any ops listed).contains i&&wG tab qs i d&& !(r.map (·.2.1)).contains d&&VP ops tab qs r (listed.setIfInBounds i true)
def YR:List Nat→Array Bool→Array Bool
 |[],a=>a
 |i::l,a=>YR l (a.setIfInBounds i true)
def xZ:List (Nat×Nat×List AV)→Fm→Fm
 |[],F=>F
 |(_,d,_)::r,F=>xZ r (put d (.lp d 0) (DD d F))
def x8:List (Nat×Nat×List AV)→Lm→Lm
 |[],L=>L
 |(_,d,z)::r,L=>x8 r (B4 d z L)
theorem Zv {ops:Array Oper} {tab:Array Nat} (htab:∀j i,(tab.getD j 0).testBit i=true→Anc ops j i) {qs:List Q} {n:Nat}:∀(ls:List (Nat×Nat×List AV)) (listed:Array Bool) (F:Fm) (L:Lm) (σ:AN),
 (∀x∈ls,qs[x.1]?=some ⟨some x.2.1,.al x.2.2 false,none⟩∧Ag x.2.2=true)→VP ops tab qs ls listed=true→Ib ops listed→listed.size=ops.size→
 Uw P ops qs K n (YR (ls.map (·.1)) listed) (xZ ls F) (x8 ls L) σ→Uw P ops qs K (n+ls.length) listed (OB (ls.map (·.2.1)) F) L σ
 |[],listed,F,L,σ,_,_,_,_,h=>h
 |(i,d,z)::r,listed,F,L,σ,hq,hok,hcl,hsz,h=>by
  simp only [VP,AM,B1,CJ] at hok
  obtain ⟨⟨⟨hr,hlay⟩,hnd⟩,hrest⟩:=hok
  have hnd':d ∉ r.map (·.2.1):=fun hm=>by rw [← QW,B1] at hnd;exact hnd hm
  obtain ⟨hi,hz⟩:=hq (i,d,z) (by simp)
  have ih:=Zv htab (n:=n) r (listed.setIfInBounds i true) (put d (.lp d 0) (DD d F)) (B4 d z L) σ (fun x hx=>hq x (by simp [hx])) hrest (hcl.set hr) (by simpa using hsz) h
  rw [Xz _ _ _ hnd'] at ih
  exact vI htab hi hz hlay (n+r.length) listed _ L σ hcl hsz hr (Xy (r.map (·.2.1)) (DD d F) d (.inr (Za d F))) ih
theorem T1 {ops:Array Oper} {tab:Array Nat} {qs:List Q}:∀(ls:List (Nat×Nat×List AV)) (listed:Array Bool),VP ops tab qs ls listed=true→Ib ops listed→listed.size=ops.size→Ib ops (YR (ls.map (·.1)) listed)∧(YR (ls.map (·.1)) listed).size=ops.size
 |[],listed,_,hc,hs=>⟨hc,hs⟩
 |(i,d,z)::r,listed,hok,hcl,hsz=>by
  simp only [VP,AM,B1] at hok
  exact T1 r _ hok.2 (hcl.set hok.1.1.1) (by simpa using hsz)
def kI (ls:List (Nat×Nat×List AV)) (t:QT):QT:=ls.foldr (fun x acc=>.one ⟨some x.2.1,.al x.2.2 false,none⟩ acc) t
theorem dX:∀(ls:List (Nat×Nat×List AV)) (t:QT) (F:Fm) (L:Lm),XT P K false (kI ls t) F L σ→XT P K false t (xZ ls F) (x8 ls L) σ
 |[],t,F,L,h=>h
 |(i,d,z)::r,t,F,L,h=>by
  have h:XQ P ⟨some d,.al z false,none⟩ (XT P K false (kI r t)) F L σ:=h
  have h:Sc z false (some d) (XT P K false (kI r t)) F L σ:=h
  exact dX r t _ _ h.2
def XY (P:Program) (N:Nat) (esc:List Nat) (pf:List FuncId) (pt:PT) (ops:Array Oper):Option QT:=do
 let qs ← Md P N esc ops (I3 ops.size)
 let qs:=qs.map (toP pf)
 let tab:=Uy ops.toList #[]
 let ls ← pV qs (PD pt).1
 let l0:=E8 ops.size false
 if VP ops tab qs ls l0&&Mv ops tab qs (PD pt).2 (YR (ls.map (·.1)) l0) none&&decide ((PD pt).2.depth+ls.length≤ops.size) then (Uj qs (PD pt).2).map (kI ls) else none
theorem Z8 {qs:List Q}:∀(l:List Nat) (ls:List (Nat×Nat×List AV)),pV qs l=some ls→∀x∈ls,qs[x.1]?=some ⟨some x.2.1,.al x.2.2 false,none⟩∧Ag x.2.2=true
 |[],ls,h,x,hx=>by simp only [pV,AP] at h;subst h;cases hx
 |i::l,ls,h,x,hx=>by
  simp only [pV] at h
  split at h
  · rename_i d z hq
    split at h
    · rename_i hz
      simp only [AJ] at h
      obtain ⟨r,hr,rfl⟩:=h
      cases hx with
      |head=>exact ⟨hq,hz⟩
      |tail _ hx=>exact Z8 l r hr x hx
    · cases h
  · cases h
theorem ZO {ops:Array Oper} {qs:List Q}:∀(n m:Nat) (listed:Array Bool) (F:Fm) (L:Lm) (σ:AN),n≤m→Uw P ops qs K n listed F L σ→Uw P ops qs K m listed F L σ
 |0,0,listed,F,L,σ,_,h=>h
 |0,m+1,listed,F,L,σ,_,h=>⟨fun _=>h.2,fun i hi=>by rw [h.1] at hi;cases hi⟩
 |n+1,0,listed,F,L,σ,hle,h=>by omega
 |n+1,m+1,listed,F,L,σ,hle,h=>⟨h.1,fun i hi=>by
  obtain ⟨q,hq,hx⟩:=h.2 i hi
  exact ⟨q,hq,T6 (fun F L σ h=>ZO n m _ F L σ (by omega) h) hx⟩⟩
theorem BV.AAJ (h:BV base g lam Pr N F L σ a w0 w) {F':Fm} (hF:∀s,F' s=F s∨F' s= .undef):BV base g lam Pr N F' L σ a w0 w:=by
 refine ⟨fun s=>?_,h.sz,h.df,h.loc,h.inj,h.npr,h.rel⟩
 rcases hF s with e|e
 · rw [e];exact h.tm s
 · rw [e];exact VR.undef
theorem Vm {ops:Array Oper} {esc:List Nat} {pf:List FuncId} {pt:PT} {qt:QT} (hm:P.follows .mixedOrders=true) (hc:XY P N esc pf pt ops=some qt) (hx:XT P K false qt F L σ)
 (h:BV base g lam Pr N F L σ a w0 w) {id:Nat}:(Code.region id ops true).wp P (fun e a' w'=>e= .normal∧Eo base Pr N w0 g w K a' w') a w:=by
 simp only [XY,AS,AB] at hc
 obtain ⟨qs0,hq0,ls,hls,hc⟩:=hc
 split at hc
 case isFalse=>cases hc
 rename_i hp
 simp only [AM,decide_eq_true_eq] at hp
 simp only [AJ] at hc
 obtain ⟨t,ht,rfl⟩:=hc
 have hcl:Ib ops (E8 ops.size false):=by
  intro j o ho hj
  have:(E8 ops.size false).getD j false=false:=by
   simp only [C9,Array.getElem?_replicate];split<;>rfl
  rw [this] at hj;cases hj
 obtain ⟨hcl2,hsz2⟩:=T1 ls _ hp.1.1 hcl (by simp)
 have hx2:=dX ls t F L hx
 have hany1:=(Wl (P:=P) (K:=K) (fun j i=>Vb) _ t ht).1 _ _ _ _ σ (A7 _) hp.1.2 hcl2 hsz2 hx2
 have hany2:=Zv (P:=P) (K:=K) (tab:=Uy ops.toList #[]) (fun j i=>Vb) ls _ F L σ (Z8 _ ls hls) hp.1.1 hcl (by simp) hany1
 have hany:=ZO _ ops.size _ _ _ _ hp.2 hany2
 refine wp_region_any hm ?_
 have hF:=h.AAJ (Vx (ls.map (·.2.1)) F)
 have hdrew:BV base g lam Pr N (OB (ls.map (·.2.1)) F) L σ a w0 { w with drawn:=w.drawn+1}:=
  hF.step (w':=w.drew) (Gh.le_refl g) (fun k b hb=>rfl) (hF.rel.grow (w':=w.drew) (A7 _) (fun _ _ _=>rfl) ((Below.refl base w).drew) (fun b hb=>⟨(hF.rel.pr b hb).1,.inl hb⟩))
 exact UB hq0 K _ _ base g lam Pr _ L σ a w0 _ hany hdrew (fun a' w' hA=>⟨rfl,Eo.trans (Gh.le_refl g) ⟨A7 _,fun _ _=>rfl⟩ hA⟩)
def lin:QT→Option (List Q)
 | .done=>some []
 | .one q t=>(lin t).map (q::·)
 | .alt _ _ _=>none
theorem qG:∀(t:QT) (ops:List Q) (F:Fm) (L:Lm) (σ:AN),lin t=some ops→BI P K ops F L σ→XT P K false t F L σ
 | .done,ops,F,L,σ,h,hx=>by simp only [lin,AP] at h;subst h;exact hx
 | .one q t,ops,F,L,σ,h,hx=>by
  simp only [lin,AJ] at h
  obtain ⟨l,hl,rfl⟩:=h
  exact T6 (fun F L σ h=>qG t l F L σ hl h) hx
 | .alt _ _ _,ops,F,L,σ,h,_=>by simp [lin] at h
end Go.Ab
