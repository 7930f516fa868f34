/- Regions that draw their order, continued: where operations do not commute, every order is looked at. Regions that draw their order, continued: new local variables may be laid first. Conditions: none. -/
import Derived.Test.YtifplkldbbcldaaGreatDoorXAb10b
set_option linter.unusedSimpArgs false
set_option linter.unusedVariables false
set_option maxRecDepth 4000
set_option maxHeartbeats 8000000
open Bool renaming false_eq_true→AL,and_eq_true→AR,or_eq_true→CR,not_eq_true'→CZ,not_eq_true→R9
open Option.some renaming injEq→AQ
open List renaming all_eq_true→A7,contains_iff_mem→B9,mem_singleton→JC,mem_zipIdx_iff_getElem?→Tf,mem_append→Bb,mem_cons→Cm,range→JD
open Option renaming bind_eq_some_iff→AF,map_eq_some_iff→AM,getD_some→Rb,bind_some→Cn,bind_eq_bind→AU
open Array renaming getD_eq_getD_getElem?→Cr,getElem?_eq_getElem→MQ,replicate→El
open Nat renaming le_refl→A4
namespace Go.Ab
open Go.RowKit
variable {P:Program} {base N:Nat} {g g':Gh} {Pr:Nat→Prop} {σ σ':AK} {w0 w w':World} {lam:Nat→Option Nat} {F:Fm} {L:Lm} {a:Act} {K:Cd}
theorem kU {o:O} {dst:Option Nat} {K':Cd} (hk:∀F L σ,K F L σ→K' F L σ) (hx:XO P dst K F L σ o):XO P dst K' F L σ o:=by
 by_cases hV:isV o=true
 · rw [qE hV] at hx ⊢
   obtain ⟨v,h1,h2⟩:=hx
   exact ⟨v,h1,hk _ _ _ h2⟩
 · cases o<;>simp only [isV,not_true_eq_false] at hV
   case box x sh=>
    simp only [XO,Th] at hx ⊢
    refine ⟨hx.1,?_⟩
    have hx:=hx.2
    cases dst with
    |none=>exact hx.elim
    |some d=>cases sh with
     |true=>exact fun i hi=>hk _ _ _ (hx i hi)
     |false=>exact hk _ _ _ hx
   case al z sh=>
    simp only [XO,Th] at hx ⊢
    refine ⟨hx.1,?_⟩
    have hx:=hx.2
    cases dst with
    |none=>exact hx.elim
    |some d=>cases sh with
     |true=>exact fun i hi=>hk _ _ _ (hx i hi)
     |false=>exact hk _ _ _ hx
   case st x v n=>
    simp only [XO,XSt] at hx ⊢
    obtain ⟨h1,h2,h3,h4⟩:=hx
    refine ⟨h1,h2,h3,?_⟩
    split at h4
    · exact hk _ _ _ h4
    · exact h4.elim
   case msl e s b z l c=>
    obtain ⟨k,k',n,h1,h2,h3,h4,h5,h6⟩:=hx
    exact ⟨k,k',n,h1,h2,h3,h4,h5,fun i hi=>hk _ _ _ (h6 i hi)⟩
   case cF e s b x y=>
    obtain ⟨n,cs,σ1,srows,h1,h2,h3,h4,h5,h6,h7⟩:=hx
    exact ⟨n,cs,σ1,srows,h1,h2,h3,fun e=>hk _ _ _ (h4 e),h5,h6,fun e t ht=>hk _ _ _ (h7 e t ht)⟩
   case trn x y=>
    obtain ⟨k,s,e,cs,σ1,h1,h2⟩:=hx
    exact ⟨k,s,e,cs,σ1,h1,fun t ht=>hk _ _ _ (h2 t ht)⟩
   case Jr e s l z ps=>
    obtain ⟨cs,h1,h2⟩:=hx
    exact ⟨cs,h1,h2.imp (fun h2 t ht=>hk _ _ _ (h2 t ht)) fun ⟨ds,h3,h4,h5⟩=>⟨ds,h3,h4,fun t ht=>hk _ _ _ (h5 t ht)⟩⟩
   case app e s b x y=>
    rcases hx with ⟨rows,σ1,srows,h1,h2,h3,h4,h5,h6⟩|⟨rows,srows,h1,h2,h3,h4,h5,h6,h7⟩
    · exact .inl ⟨rows,σ1,srows,h1,h2,h3,h4,h5,fun t ht=>hk _ _ _ (h6 t ht)⟩
    · exact .inr ⟨rows,srows,h1,h2,h3,h4,h5,h6,hk _ _ _ h7⟩
   case call f args=>
    obtain ⟨h1,R,h2,h3⟩:=hx
    exact ⟨h1,R,h2,fun v σ' hv=>hk _ _ _ (h3 v σ' hv)⟩
   case E2 x args=>
    obtain ⟨f,first,caps,h0,hb,h1,R,h2,h3⟩:=hx
    exact ⟨f,first,caps,h0,hb,h1,R,h2,fun v σ' hv=>hk _ _ _ (h3 v σ' hv)⟩
   case ex k xs=>
    simp only [XO,XEx,hV,AL,if_false] at hx ⊢
    exact ⟨hx.1,hx.2.mono fun v σ' _ hv=>hk _ _ _ hv⟩
theorem Uk {q:Q} {K':Cd} (hk:∀F L σ,K F L σ→K' F L σ) (hx:XQ P q K F L σ):XQ P q K' F L σ:=by
 unfold XQ at hx ⊢
 cases hc:gd F q.grd with
 |none=>rw [hc] at hx;exact hx.elim
 |some b=>
  rw [hc] at hx
  cases b
  · exact hk _ _ _ hx
  · exact kU hk hx
inductive PT where
 |done
 |one (i:Nat) (t:PT)
 |alt (i:Nat) (t r:PT)
 |lay (i:Nat) (t:PT)
inductive QT where
 |done
 |one (q:Q) (t:QT)
 |alt (q:Q) (t r:QT)
def XT (P:Program) (K:Cd):Bool→QT→Cd
 |false,.done=>K
 |true,.done=>fun _ _ _=>True
 |_,.one q t=>XQ P q (XT P K false t)
 |_,.alt q t r=>fun F L σ=>XQ P q (XT P K false t) F L σ∧XT P K true r F L σ
def PT.depth:PT→Nat
 | .done=>0
 | .one _ t=>t.depth+1
 | .alt _ t r=>max (t.depth+1) r.depth
 | .lay _ t=>t.depth+1
def WE (qs:List Q):PT→Option QT
 | .done=>some .done
 | .one i t=>(qs[i]?).bind fun q=>(WE qs t).map (.one q ·)
 | .alt i t r=>(qs[i]?).bind fun q=>(WE qs t).bind fun t'=>(WE qs r).map (.alt q t' ·)
 | .lay i t=>(qs[i]?).bind fun q=>(WE qs t).map (.one q ·)
def N5 (ops:Array Oper) (tab:Array Nat) (qs:List Q):PT→Array Bool→Option (List Nat)→Bool
 | .done,listed,none=>(Region.ready .any ops listed).isEmpty
 | .done,listed,some l=>(Region.ready .any ops listed).all (l.contains ·)
 | .one i t,listed,none=>(Region.ready .any ops listed).contains i&&(Region.ready .any ops listed==[i]||Yp tab qs listed i)&&N5 ops tab qs t (listed.setIfInBounds i true) none
 | .one i t,listed,some l=>(Region.ready .any ops listed).contains i&&(Region.ready .any ops listed).all (fun j=>j==i||l.contains j)&&N5 ops tab qs t (listed.setIfInBounds i true) none
 | .alt i t r,listed,e=>(Region.ready .any ops listed).contains i&&N5 ops tab qs t (listed.setIfInBounds i true) none&&N5 ops tab qs r listed (some (i::e.getD []))
 | .lay _ _,_,_=>false
theorem ZD {ops:Array Oper} {tab:Array Nat} (htab:∀j i,(tab.getD j 0).testBit i=true→Anc ops j i) {qs:List Q}:∀(t:PT) (qt:QT),WE qs t=some qt→
 (∀n listed F L σ,t.depth≤n→N5 ops tab qs t listed none=true→JI ops listed→listed.size=ops.size→XT P K false qt F L σ→W6 P ops qs K n listed F L σ)∧
 (∀n listed l F L σ,t.depth≤n+1→N5 ops tab qs t listed (some l)=true→JI ops listed→listed.size=ops.size→XT P K true qt F L σ→
   ∀j∈Region.ready .any ops listed,j ∉ l→∃q,qs[j]?=some q∧XQ P q (W6 P ops qs K n (listed.setIfInBounds j true)) F L σ)
 | .done,qt,hp=>by
  simp only [WE,AQ] at hp;subst hp
  refine ⟨fun n listed F L σ _ hp _ _ hx=>?_,fun n listed l F L σ _ hp _ _ _ j hj hjl=>?_⟩
  · simp only [N5,List.isEmpty_iff] at hp
    cases n with
    |zero=>exact ⟨hp,hx⟩
    |succ n=>exact ⟨fun _=>hx,fun i hi=>by rw [hp] at hi;cases hi⟩
  · simp only [N5,A7,B9] at hp
    exact absurd (hp j hj) hjl
 | .one i t,qt,hp=>by
  simp only [WE,AF,AM] at hp
  obtain ⟨q,hq,t',ht',rfl⟩:=hp
  obtain ⟨ih,_⟩:=ZD htab t t' ht'
  refine ⟨fun n listed F L σ hd hp hcl hsz hx=>?_,fun n listed l F L σ hd hp hcl hsz hx j hj hjl=>?_⟩
  · simp only [PT.depth] at hd
    obtain ⟨m,rfl⟩:∃m,n=m+1:=⟨n - 1,by omega⟩
    simp only [N5,AR,CR,B9,beq_iff_eq] at hp
    obtain ⟨⟨hr,hok⟩,hrest⟩:=hp
    have hx:XQ P q (XT P K false t') F L σ:=hx
    have ih':=fun F L σ=>ih m (listed.setIfInBounds i true) F L σ (by omega) hrest (hcl.set hr) (by simpa using hsz)
    rcases hok with hok|hok
    · refine ⟨fun h=>(by rw [h] at hr;cases hr),fun j hj=>?_⟩
      rw [hok] at hj
      simp only [JC] at hj
      subst hj
      exact ⟨_,hq,Uk (fun F L σ h=>ih' F L σ h) hx⟩
    · unfold Yp at hok
      rw [hq] at hok
      simp only [AR,A7] at hok
      obtain ⟨v,hy,hk⟩:=(tL hok.1 _).1 hx
      refine b9 htab hq hok.1 m listed F L σ v hcl hsz (fun j qj hj hji hun=>?_) hr hy (ih' _ _ _ hk)
      have hmem:(qj,j)∈qs.zipIdx:=by
       rw [Tf];exact hj
      have:=hok.2 (qj,j) hmem
      simp only [CR,beq_iff_eq] at this
      rcases this with (h|h)|h
      · exact absurd h hji
      · rw [hun] at h;cases h
      · exact h
  · simp only [PT.depth] at hd
    simp only [N5,AR,A7,B9,CR,beq_iff_eq] at hp
    obtain ⟨⟨hr,hall⟩,hrest⟩:=hp
    have hx:XQ P q (XT P K false t') F L σ:=hx
    rcases hall j hj with rfl|h
    · exact ⟨q,hq,Uk (fun F L σ h=>ih n _ F L σ (by omega) hrest (hcl.set hr) (by simpa using hsz) h) hx⟩
    · exact absurd h hjl
 | .alt i t r,qt,hp=>by
  simp only [WE,AF,AM] at hp
  obtain ⟨q,hq,t',ht',r',hr',rfl⟩:=hp
  obtain ⟨ih,_⟩:=ZD htab t t' ht'
  obtain ⟨_,ihr⟩:=ZD htab r r' hr'
  refine ⟨fun n listed F L σ hd hp hcl hsz hx=>?_,fun n listed l F L σ hd hp hcl hsz hx j hj hjl=>?_⟩
  · simp only [PT.depth] at hd
    obtain ⟨m,rfl⟩:∃m,n=m+1:=⟨n - 1,by omega⟩
    simp only [N5,AR,B9,Option.getD_none] at hp
    obtain ⟨⟨hr,hrest⟩,hp2⟩:=hp
    obtain ⟨hx1,hx2⟩:=hx
    refine ⟨fun h=>(by rw [h] at hr;cases hr),fun j hj=>?_⟩
    by_cases hji:j=i
    · subst hji
      exact ⟨q,hq,Uk (fun F L σ h=>ih m _ F L σ (by omega) hrest (hcl.set hr) (by simpa using hsz) h) hx1⟩
    · exact ihr m listed [i] F L σ (by omega) hp2 hcl hsz hx2 j hj (by simpa using hji)
  · simp only [PT.depth] at hd
    simp only [N5,AR,B9,Rb] at hp
    obtain ⟨⟨hr,hrest⟩,hp2⟩:=hp
    obtain ⟨hx1,hx2⟩:=hx
    by_cases hji:j=i
    · subst hji
      exact ⟨q,hq,Uk (fun F L σ h=>ih n _ F L σ (by omega) hrest (hcl.set hr) (by simpa using hsz) h) hx1⟩
    · exact ihr n listed (i::l) F L σ (by omega) hp2 hcl hsz hx2 j hj (by simp [hji,hjl])
 | .lay i t,qt,hp=>⟨fun n listed F L σ _ hp=>by simp [N5] at hp,fun n listed l F L σ _ hp=>by simp [N5] at hp⟩
end Go.Ab
namespace Go.Ab
open Go.RowKit
variable {P:Program} {base N:Nat} {g g':Gh} {Pr:Nat→Prop} {σ σ':AK} {w0 w w':World} {lam:Nat→Option Nat} {F:Fm} {L:Lm} {a:Act} {K:Cd} {d:Nat} {z:List AV}
theorem VR.DF {x:AV} {v:Value} (h:VR g x v) (d:Nat):x.DF d=false:=by cases h<;>rfl
theorem XB {x:AV} (h:x.BL=true) (d:Nat):x.DF d=false:=by cases x<;>first|rfl|(cases h;done)
theorem iS {x:AV} (h:x.CB=true) (d:Nat):x.DF d=false:=by cases x<;>first|rfl|(cases h;done)
theorem AP.DF {f:FuncId} {args:List AV} {Q:AV→AK→Prop} (h:AP P f args σ Q) (d:Nat):AP P f args σ (fun v σ'=>Q v σ'∧v.DF d=false):=
 fun base g Pr w0 w vs hr hv=>(h base g Pr w0 w vs hr hv).mono fun _ _ ⟨v,av,g',σ',a,b,c,d',e,q⟩=>⟨v,av,g',σ',a,b,c,d',e,q,b.DF d⟩
def Off (d:Nat) (F:Fm):Prop:=∀s,(F s).DF d=false
theorem Off.At (h:Off d F) {dst:Option Nat} {v:AV} (hv:v.DF d=false):Off d (At dst v F):=by
 intro s
 cases dst with
 |none=>exact h s
 |some k=>
  simp only [Ab.At,Ab.put]
  split
  · exact hv
  · exact h s
theorem Off.DS (h:Off d F) (k:Nat):Off d (DS k F):=by
 intro s
 simp only [Ab.DS]
 split
 · rfl
 · exact h s
theorem eH (d:Nat) (F:Fm):Off d (DS d F):=by
 intro s
 simp only [DS]
 split
 · rfl
 · rename_i h;simpa using h
def cOk:X→Bool
 | .t _=>true
 | .c v=>v.BL
theorem T1 (h:Off d F) {x:X} (hx:cOk x=true):(xv F x).DF d=false:=by
 cases x with
 |t n=>exact h n
 |c v=>exact XB hx d
def T5:O→Bool
 | .mv x| .fld x _| .ld x _| .ldl x _| .nck x=>cOk x
 | .pick _ x y=>cOk x&&cOk y
 | .st x _ _=>cOk x
 |_=>true
theorem gL {k:Nat} (h:k≠d) (z:List AV) (L:Lm):Aq d z L k=L k:=by simp [Aq,h]
theorem zF {p:AV} (hp:p.DF d=false) (n:Option Nat):ldA (Aq d z L) σ p n=ldA L σ p n:=by
 cases p<;>try rfl
 · rename_i dx;cases dx<;>rfl
 rename_i k o
 have:k≠d:=by simpa [AV.DF] using hp
 simp [ldA,gL this]
theorem vE {p:AV} (hp:p.DF d=false) (n:Option Nat):gC (Aq d z L) p n=gC L p n:=by
 cases p<;>try rfl
 rename_i k o
 have:k≠d:=by simpa [AV.DF] using hp
 simp [gC,gL this]
theorem ADL (h:Off d F) {o:O} (hc:T5 o=true):pv F (Aq d z L) σ o=pv F L σ o:=by
 cases o<;>try rfl
 case ld x n=>exact zF (T1 h hc) n
 case ldl x n=>exact vE (T1 h hc) n
theorem Ta {cs:List AV} {o:Nat} {n:Option Nat} {v:AV} (h:rdC cs o n=some v):v.DF d=false:=by
 cases n with
 |none=>
  simp only [rdC,AF] at h
  obtain ⟨v0,_,h⟩:=h
  obtain ⟨rfl,hc⟩:=Ur h
  exact iS hc d
 |some n=>
  simp only [rdC] at h
  split at h
  · cases h;rfl
  · cases h
theorem uR {op:BinOp} {k:IntKind} {x y:Int} {v:AV} (h:rG op k x y=some v):v.DF d=false:=by
 unfold rG at h
 split at h<;>first|(cases h;rfl)|(split at h<;>first|(cases h;done)|(cases h;rfl))|(cases h;done)
theorem xP {op:BinOp} {x y:List UInt8} {v:AV} (h:gV op x y=some v):v.DF d=false:=by
 unfold gV at h
 split at h<;>first|(cases h;rfl)|(split at h<;>first|(cases h;done)|(cases h;rfl))|(cases h;done)
theorem pC {b:Bool} {x y v:AV} (h:mmA b x y=some v):v.DF d=false:=by
 unfold mmA at h
 split at h
 · split at h
   · cases h;rfl
   · cases h
 · cases h
theorem fX {rows:List (List DV)} {m:Int} {n:Nat} {v:AV} (h:ixR rows m n=some v):v.DF d=false:=by
 unfold ixR at h
 split at h
 · simp only [AF] at h
   obtain ⟨r,_,h⟩:=h
   split at h
   · cases h;rfl
   · cases h
 · cases h
theorem y0 {k:EK} {args:List AV} {v:AV} (h:exP k args=some v):v.DF d=false:=by
 obtain ⟨_,h⟩:=Yk h
 unfold U7 at h
 split at h
 · cases h;rfl
 · simp only [AM] at h;obtain ⟨_,_,rfl⟩:=h;rfl
 · simp only [AM] at h;obtain ⟨_,_,rfl⟩:=h;rfl
 · cases h
theorem AAH (h:Off d F) {o:O} (hc:T5 o=true) {v:AV} (hv:pv F L σ o=some v):v.DF d=false:=by
 cases o<;>simp only [pv] at hv<;>try (cases hv;done)
 case mv x=>cases hv;exact T1 h hc
 case ex k xs=>exact y0 hv
 case pick c x y=>
  simp only [T5,AR] at hc
  unfold jM at hv
  split at hv
  · cases hv;split
    · exact T1 h hc.1
    · exact T1 h hc.2
  · cases hv
 case fld x off=>
  have hx:=T1 h hc
  generalize xv F x=p at hv hx
  cases p<;>simp only [lR] at hv<;>try (cases hv;done)
  · rename_i dx;cases dx<;>simp only at hv<;>first|(cases hv;done)|(cases hv;rfl)
  · cases hv;exact hx
  · cases hv;rfl
  · cases hv;rfl
 case ld x n=>
  generalize xv F x=p at hv
  cases p<;>simp only [ldA] at hv<;>try (cases hv;done)
  · rename_i dx;cases dx<;>simp only at hv<;>first|(cases hv;done)|exact Ta hv
  · simp only [AF] at hv;obtain ⟨_,_,hv⟩:=hv;exact Ta hv
  · simp only [AF] at hv;obtain ⟨_,_,hv⟩:=hv;exact Ta hv
  · exact Ta hv
 case ldl x n=>
  generalize xv F x=p at hv
  cases p<;>simp only [gC] at hv<;>try (cases hv;done)
  simp only [AF] at hv;obtain ⟨_,_,hv⟩:=hv;exact Ta hv
 case ix x i n=>
  unfold ixA at hv
  split at hv
  · split at hv
    · cases hv;rfl
    · cases hv
  · split at hv
    · cases hv;rfl
    · cases hv
  · exact fX hv
  · exact fX hv
  · exact fX hv
  · cases hv
 case Oj x i=>
  unfold bE at hv
  split at hv
  · split at hv
    · simp only [AM] at hv;obtain ⟨_,_,rfl⟩:=hv;rfl
    · cases hv
  · cases hv
 case len x=>
  unfold Tz at hv
  split at hv<;>first|(cases hv;rfl)|(cases hv;done)
 case Lp x=>
  unfold eY at hv
  split at hv<;>first|(cases hv;rfl)|(cases hv;done)
 case bin op x y=>
  unfold qN at hv
  split at hv
  · split at hv
    · exact uR hv
    · cases hv
  · exact xP hv
  · cases hv
 case tS op x y=>
  unfold dR at hv
  split at hv<;>first|(cases hv;rfl)|(cases hv;done)
 case un op x=>
  unfold unA at hv
  split at hv<;>first|(cases hv;rfl)|(cases hv;done)
 case conv k x=>
  unfold dW at hv
  split at hv<;>first|(cases hv;rfl)|(cases hv;done)
 case bld z ps=>simp only [AM] at hv;obtain ⟨_,_,rfl⟩:=hv;rfl
 case bsl s n z ps=>simp only [AM] at hv;obtain ⟨_,_,rfl⟩:=hv;rfl
 case mkf f x y=>
  split at hv
  · cases hv;rfl
  · cases hv
 case ext x i=>
  unfold q6 at hv
  split at hv
  · simp only [AF] at hv
    obtain ⟨v0,_,hv⟩:=hv
    obtain ⟨rfl,hn⟩:=Zv hv
    exact XB hn d
  · cases hv
 case nck x=>
  have hx:=T1 h hc
  generalize xv F x=p at hv hx
  cases p<;>simp only [vR] at hv<;>try (cases hv;done)
  · rename_i dx;cases dx<;>simp only at hv<;>first|(cases hv;done)|(cases hv;rfl)
  · cases hv;exact hx
  · cases hv;rfl
  · cases hv;rfl
 case mm b x y=>exact pC hv
 case fd x off n=>
  generalize xv F x=p at hv
  cases p<;>simp only [fdA] at hv<;>try (cases hv;done)
  exact Ta hv
 case ssl x lo hi=>
  unfold TS at hv
  split at hv
  · simp only [AM] at hv;obtain ⟨_,_,rfl⟩:=hv;rfl
  · cases hv
 case sls x lo hi mx n=>
  unfold sV at hv
  split at hv
  · split at hv
    · cases hv;rfl
    · cases hv
  · simp only [AF] at hv
    obtain ⟨_,_,hv⟩:=hv
    split at hv
    · cases hv;rfl
    · cases hv
  · simp only [AF] at hv
    obtain ⟨_,_,hv⟩:=hv
    split at hv
    · cases hv;rfl
    · cases hv
  simp only [AF] at hv
  obtain ⟨rows,_,hv⟩:=hv
  unfold gS at hv
  split at hv
  · simp only [AF] at hv
    obtain ⟨b,_,hv⟩:=hv
    split at hv
    · cases hv;rfl
    · split at hv
      · cases hv;rfl
      · cases hv
    · cases hv
  · cases hv
 case nA ne x=>
  unfold eN at hv
  split at hv<;>first|(cases hv;rfl)|(cases hv;done)
 case nV ne n x y=>
  unfold fB at hv
  split at hv
  · split at hv
    · simp only [AM] at hv;obtain ⟨_,_,rfl⟩:=hv;rfl
    · cases hv
  · cases hv
 case mm3 b x y z=>
  simp only [AF] at hv
  obtain ⟨_,_,hv⟩:=hv
  exact pC hv
 case tT x=>simp only [AM] at hv;obtain ⟨_,_,rfl⟩:=hv;rfl
theorem EF {dst:Option Nat} (h:dst≠some d) (v x:AV) (F:Fm):At dst v (put d x F)=put d x (At dst v F):=
 XH (d:=dst) (e:=some d) (fun k hk he=>h (by rw [hk,he])) v x F
theorem TF {k:Nat} (h:d≠k) (F:Fm):DS k (put d (.lp d 0) F)=put d (.lp d 0) (DS k F):=by
 funext s
 simp only [DS,put]
 by_cases e:s=d
 · subst e;simp [AV.DF,h]
 · simp [e]
theorem XF {k:Nat} (h:k≠d) (x y:List AV) (L:Lm):Aq k x (Aq d y L)=Aq d y (Aq k x L):=by
 funext s
 simp only [Aq]
 by_cases e:s=k
 · subst e;simp [h]
 · simp [e]
theorem AB5 {o:O} {dst:Option Nat} (hN:Off d F) (hc:T5 o=true) (hl:∀s∈Jc o,s≠d) (hd:dst≠some d) (hx:XO P dst K (put d (.lp d 0) F) (Aq d z L) σ o):
 XO P dst (fun F' L' σ'=>Off d F'∧K (put d (.lp d 0) F') (Aq d z L') σ') F L σ o:=by
 have hF:∀s∈Jc o,put d (.lp d 0) F s=F s:=fun s hs=>by simp [put,hl s hs]
 by_cases hV:isV o=true
 · rw [qE hV] at hx ⊢
   obtain ⟨u,h1,h2⟩:=hx
   have h1:=ZM hF h1
   have h3:Yv P F L σ u o∧u.DF d=false:=by
    cases o<;>try (cases hV;done)
    case Xx f args=>exact ⟨h1,XB h1.2.1 d⟩
    all_goals
     simp only [Yv] at h1 ⊢
     rw [ADL hN hc] at h1
     exact ⟨h1,AAH hN hc h1⟩
   refine ⟨u,h3.1,hN.At h3.2,?_⟩
   rw [← EF hd];exact h2
 · cases o<;>simp only [isV,not_true_eq_false] at hV<;>simp only [Jc,Bb] at hF
   case box x sh=>
    simp only [XO,Th] at hx ⊢
    rw [← BG hF]
    refine ⟨hx.1,?_⟩
    have hx:=hx.2
    cases dst with
    |none=>exact hx.elim
    |some e=>
     have hne:d≠e:=fun h=>hd (by rw [h])
     cases sh with
     |true=>exact fun i hi=>⟨hN.At (dst:=some e) (v:= .gp i 0) rfl,by have:=hx i hi;rw [show put e (.gp i 0) (put d (.lp d 0) F)=put d (.lp d 0) (put e (.gp i 0) F) from EF (dst:=some e) hd _ _ _] at this;exact this⟩
     |false=>
      refine ⟨(hN.DS e).At (dst:=some e) (v:= .lp e 0) (by simp [AV.DF];exact Ne.symm hne),?_⟩
      have hx:K (put e (.lp e 0) (DS e (put d (.lp d 0) F))) (Aq e (xv (put d (.lp d 0) F) x).cells (Aq d z L)) σ:=hx
      rw [TF hne,XF (Ne.symm hne),show put e (.lp e 0) (put d (.lp d 0) (DS e F))=put d (.lp d 0) (put e (.lp e 0) (DS e F)) from EF (dst:=some e) hd _ _ _] at hx
      exact hx
   case al y sh=>
    simp only [XO,Th] at hx ⊢
    refine ⟨hx.1,?_⟩
    have hx:=hx.2
    cases dst with
    |none=>exact hx.elim
    |some e=>
     have hne:d≠e:=fun h=>hd (by rw [h])
     cases sh with
     |true=>exact fun i hi=>⟨hN.At (dst:=some e) (v:= .gp i 0) rfl,by have:=hx i hi;rw [show put e (.gp i 0) (put d (.lp d 0) F)=put d (.lp d 0) (put e (.gp i 0) F) from EF (dst:=some e) hd _ _ _] at this;exact this⟩
     |false=>
      refine ⟨(hN.DS e).At (dst:=some e) (v:= .lp e 0) (by simp [AV.DF];exact Ne.symm hne),?_⟩
      have hx:K (put e (.lp e 0) (DS e (put d (.lp d 0) F))) (Aq e y (Aq d z L)) σ:=hx
      rw [TF hne,XF (Ne.symm hne),show put e (.lp e 0) (put d (.lp d 0) (DS e F))=put d (.lp d 0) (put e (.lp e 0) (DS e F)) from EF (dst:=some e) hd _ _ _] at hx
      exact hx
   case st x y n=>
    simp only [XO,XSt] at hx ⊢
    rw [BG (F:=put d (.lp d 0) F) (F':=F) (fun s hs=>hF s (.inl hs)),BG (F:=put d (.lp d 0) F) (F':=F) (fun s hs=>hF s (.inr hs))] at hx
    obtain ⟨h1,h2,h3,h4⟩:=hx
    refine ⟨h1,h2,h3,?_⟩
    have hp:=T1 hN hc
    generalize xv F x=p at hp h4
    cases p<;>simp only [stA] at h4 ⊢<;>try (exact h4.elim)
    · rename_i k o2
      have hk:k≠d:=by simpa [AV.DF] using hp
      rw [gL hk] at h4
      cases hL:L k with
      |none=>rw [hL] at h4;exact h4.elim
      |some cs=>
       rw [hL] at h4
       simp only [Cn] at h4 ⊢
       by_cases hle:o2+(xv F y).cells.length≤cs.length
       · rw [if_pos hle] at h4 ⊢
         refine ⟨hN,?_⟩
         have h4:K (put d (.lp d 0) F) (Aq k (wr cs o2 (xv F y).cells) (Aq d z L)) σ:=h4
         rw [XF hk] at h4;exact h4
       · rw [if_neg hle] at h4;exact h4.elim
    · rename_i i o2
      cases hb:σ.blk i with
      |none=>rw [hb] at h4;exact h4.elim
      |some cs=>
       rw [hb] at h4
       simp only [Cn] at h4 ⊢
       by_cases hle:o2+(xv F y).cells.length≤cs.length
       · rw [if_pos hle] at h4 ⊢;exact ⟨hN,h4⟩
       · rw [if_neg hle] at h4;exact h4.elim
   case msl e s b y l c=>
    obtain ⟨k,k',n,h1,h2,h3,h4,h5,h6⟩:=hx
    refine ⟨k,k',n,by rw [← BG (fun s hs=>hF s (.inl hs))];exact h1,by rw [← BG (fun s hs=>hF s (.inr hs))];exact h2,h3,h4,h5,fun i hi=>⟨hN.At rfl,?_⟩⟩
    rw [← EF hd];exact h6 i hi
   case app e s b x y=>
    rcases hx with ⟨rows,σ1,srows,h1,h2,h3,h4,h5,h6⟩|⟨rows,srows,h1,h2,h3,h4,h5,h6,h7⟩
    · refine .inl ⟨rows,σ1,srows,by rw [← BG (fun s hs=>hF s (.inl hs))];exact h1,by rw [← BG (fun s hs=>hF s (.inr hs))];exact h2,h3,h4,h5,fun t ht=>⟨hN.At rfl,?_⟩⟩
      rw [← EF hd];exact h6 t ht
    · refine .inr ⟨rows,srows,by rw [← BG (fun s hs=>hF s (.inl hs))];exact h1,by rw [← BG (fun s hs=>hF s (.inr hs))];exact h2,h3,h4,h5,h6,⟨hN.At rfl,?_⟩⟩
      rw [← EF hd];exact h7
   case cF e s b x y=>
    obtain ⟨n,cs,σ1,srows,h1,h2,h3,h4,h5,h6,h7⟩:=hx
    refine ⟨n,cs,σ1,srows,by rw [← BG (fun s hs=>hF s (.inl hs))];exact h1,by rw [← BG (fun s hs=>hF s (.inr hs))];exact h2,h3,fun e=>⟨hN.At ?_,?_⟩,h5,h6,fun e t ht=>⟨hN.At rfl,?_⟩⟩
    · unfold UO at h1
      rw [← BG (fun s hs=>hF s (.inl hs))]
      generalize xv _ x=xx at h1
      cases xx<;>first|rfl|(cases h1;done)
    · rw [← EF hd,← BG (fun s hs=>hF s (.inl hs))];exact h4 e
    · rw [← EF hd];exact h7 e t ht
   case trn x y=>
    obtain ⟨k,s,e,cs,σ1,h1,h2⟩:=hx
    refine ⟨k,s,e,cs,σ1,by rw [← BG (fun s hs=>hF s (.inl hs)),← BG (fun s hs=>hF s (.inr hs))];exact h1,fun t ht=>⟨hN.At rfl,?_⟩⟩
    rw [← EF hd];exact h2 t ht
   case Jr e s l y ps=>
    obtain ⟨cs,h1,h2⟩:=hx
    refine ⟨cs,by rw [← ON _ _ hF];exact h1,h2.imp (fun h2 t ht=>⟨hN.At rfl,?_⟩) fun ⟨ds,h3,h4,h5⟩=>⟨ds,h3,h4,fun t ht=>⟨hN.At rfl,?_⟩⟩⟩
    · rw [← EF hd];exact h2 t ht
    · rw [← EF hd];exact h5 t ht
   case call f args=>
    obtain ⟨h1,R,h2,h3⟩:=hx
    rw [Gv hF] at h1 h2
    refine ⟨h1,_,h2.DF d,fun u σ' hv=>⟨hN.At hv.2,?_⟩⟩
    rw [← EF hd];exact h3 u σ' hv.1
   case E2 x args=>
    obtain ⟨f,first,caps,h0,hb,h1,R,h2,h3⟩:=hx
    rw [Gv (fun s hs=>hF s (.inr hs))] at h1 h2
    refine ⟨f,first,caps,by rw [← BG (fun s hs=>hF s (.inl hs))];exact h0,hb,h1,_,h2.DF d,fun u σ' hv=>⟨hN.At hv.2,?_⟩⟩
    rw [← EF hd];exact h3 u σ' hv.1
   case ex k xs=>
    simp only [XO,XEx,hV,AL,if_false] at hx ⊢
    rw [Gv hF] at hx
    refine ⟨hx.1,hx.2.mono fun u σ' hu hv=>⟨hN.At (hu d),?_⟩⟩
    rw [← EF hd];exact hv
theorem AB7 {q:Q} (hN:Off d F) (hc:T5 q.o=true) (hl:∀s∈q.looks,s≠d) (hd:q.dst≠some d) (hx:XQ P q K (put d (.lp d 0) F) (Aq d z L) σ):
 XQ P q (fun F' L' σ'=>Off d F'∧K (put d (.lp d 0) F') (Aq d z L') σ') F L σ:=by
 have h1:∀s∈Jc q.o,s≠d:=fun s hs=>hl s (by simp [Q.looks,hs])
 unfold XQ at hx ⊢
 rw [Zg (F:=put d (.lp d 0) F) (F':=F) (fun s hs=>by simp [put,hl s hs])] at hx
 cases hc2:gd F q.grd with
 |none=>rw [hc2] at hx;exact hx.elim
 |some b=>
  rw [hc2] at hx
  cases b
  · have hx:K (At q.dst (.tup []) (put d (.lp d 0) F)) (Aq d z L) σ:=hx
    rw [EF hd] at hx
    exact ⟨hN.At rfl,hx⟩
  · exact AB5 hN hc h1 hd hx
theorem sM (h:Off d F):DS d F=F:=by
 funext s
 simp [DS,h s]
def ABW (tab:Array Nat) (qs:List Q) (i d:Nat):Bool:=
 qs.zipIdx.all fun (qj,j)=>j==i||(tab.getD j 0).testBit i||(T5 qj.o&& !qj.looks.contains d&&qj.dst != some d)
theorem AA5 {ops:Array Oper} {tab:Array Nat} (htab:∀j i,(tab.getD j 0).testBit i=true→Anc ops j i) {qs:List Q} {i:Nat} (hi:qs[i]?=some ⟨some d,.al z false,none⟩) (hz:Ag z=true) (hlay:ABW tab qs i d=true):
 ∀(fuel:Nat) (listed:Array Bool) (F:Fm) (L:Lm) (σ:AK),JI ops listed→listed.size=ops.size→i∈Region.ready .any ops listed→Off d F→
  W6 P ops qs K fuel (listed.setIfInBounds i true) (put d (.lp d 0) F) (Aq d z L) σ→W6 P ops qs K (fuel+1) listed F L σ:=by
 have hself:∀(K2:Cd) (F:Fm) (L:Lm) (σ:AK),Off d F→K2 (put d (.lp d 0) F) (Aq d z L) σ→XQ P ⟨some d,.al z false,none⟩ K2 F L σ:=fun K2 F L σ hN h=>by
  show Th z false (some d) K2 F L σ
  refine ⟨hz,?_⟩
  show K2 (put d (.lp d 0) (DS d F)) (Aq d z L) σ
  rw [sM hN];exact h
 intro fuel
 induction fuel with
 |zero=>
  intro listed F L σ hcl hsz hr hN H
  refine ⟨fun h=>(by rw [h] at hr;cases hr),fun j hj=>?_⟩
  by_cases hji:i=j
  · subst hji;exact ⟨_,hi,hself _ _ _ _ hN H⟩
  · have:=P2 hj hji
    rw [H.1] at this;cases this
 |succ fuel ih=>
  intro listed F L σ hcl hsz hr hN H
  refine ⟨fun h=>(by rw [h] at hr;cases hr),fun j hj=>?_⟩
  by_cases hji:i=j
  · subst hji;exact ⟨_,hi,hself _ _ _ _ hN H⟩
  · obtain ⟨qj,hqj,hxj⟩:=H.2 j (P2 hj hji)
    obtain ⟨hjlt,hjun,oj,hoj,hjall⟩:=Kr.1 hj
    have hiun:=(Kr.1 hr).2.1
    have hilt:=(Kr.1 hr).1
    have hmem:(qj,j)∈qs.zipIdx:=by rw [Tf];exact hqj
    have hb:=A7.1 hlay (qj,j) hmem
    simp only [CR,beq_iff_eq,AR,CZ,bne_iff_ne] at hb
    rcases hb with (hb|hanc)|⟨⟨hc,hlk⟩,hdst⟩
    · exact absurd hb.symm hji
    · have h1:=ZP hcl (htab j i hanc) (fun o ho=>by rw [hoj] at ho;cases ho;exact hjall)
      rw [Cr,MQ (by omega)] at h1 hiun
      simp at h1 hiun
      rw [h1] at hiun;cases hiun
    · refine ⟨qj,hqj,?_⟩
      have hlk':∀s∈qj.looks,s≠d:=fun s hs he=>by subst he;rw [← R9,B9] at hlk;exact hlk hs
      have hcomm:(listed.setIfInBounds i true).setIfInBounds j true=(listed.setIfInBounds j true).setIfInBounds i true:=Array.setIfInBounds_comm _ _ hji
      refine Uk (fun F' L' σ' h=>?_) (AB7 hN hc hlk' hdst hxj)
      refine ih _ F' L' σ' (hcl.set hj) (by simpa using hsz) (P2 hr (Ne.symm hji)) h.1 ?_
      rw [← hcomm];exact h.2
def Oa:List Nat→Fm→Fm
 |[],F=>F
 |d::ds,F=>Oa ds (DS d F)
theorem YA:∀(ds:List Nat) (F:Fm) (s:Nat),Oa ds F s=F s∨Oa ds F s= .undef
 |[],F,s=>.inl rfl
 |d::ds,F,s=>by
  rcases YA ds (DS d F) s with h|h
  · rw [Oa,h];simp only [DS];split<;>simp
  · exact .inr h
theorem aE:∀(ds:List Nat) (F:Fm) (d:Nat),(d∈ds∨Off d F)→Off d (Oa ds F)
 |[],F,d,h=>by
  rcases h with h|h
  · cases h
  · exact h
 |e::ds,F,d,h=>by
  refine aE ds (DS e F) d ?_
  rcases h with h|h
  · cases h with
    |head=>exact .inr (eH _ F)
    |tail _ h=>exact .inl h
  · exact .inr (h.DS e)
theorem aF:∀(ds:List Nat) (F:Fm) (d:Nat),d ∉ ds→Oa ds (put d (.lp d 0) F)=put d (.lp d 0) (Oa ds F)
 |[],F,d,_=>rfl
 |e::ds,F,d,h=>by
  simp only [Cm,not_or] at h
  simp only [Oa]
  rw [TF h.1,aF ds _ d h.2]
def Pt:PT→List Nat×PT
 | .lay i t=>(i::(Pt t).1,(Pt t).2)
 |t=>([],t)
def vC (qs:List Q):List Nat→Option (List (Nat×Nat×List AV))
 |[]=>some []
 |i::l=>match qs[i]? with
  |some ⟨some d,.al z false,none⟩=>if Ag z then (vC qs l).map ((i,d,z)::·) else none
  |_=>none
def XA (ops:Array Oper) (tab:Array Nat) (qs:List Q):List (Nat×Nat×List AV)→Array Bool→Bool
 |[],_=>true
 |(i,d,_)::r,listed=>(Region.ready .any ops listed).contains i&&ABW tab qs i d&& !(r.map (·.2.1)).contains d&&XA ops tab qs r (listed.setIfInBounds i true)
def bB:List Nat→Array Bool→Array Bool
 |[],a=>a
 |i::l,a=>bB l (a.setIfInBounds i true)
def AC2:List (Nat×Nat×List AV)→Fm→Fm
 |[],F=>F
 |(_,d,_)::r,F=>AC2 r (put d (.lp d 0) (DS d F))
def AC3:List (Nat×Nat×List AV)→Lm→Lm
 |[],L=>L
 |(_,d,z)::r,L=>AC3 r (Aq d z L)
theorem fJ {ops:Array Oper} {tab:Array Nat} (htab:∀j i,(tab.getD j 0).testBit i=true→Anc ops j i) {qs:List Q} {n:Nat}:∀(ls:List (Nat×Nat×List AV)) (listed:Array Bool) (F:Fm) (L:Lm) (σ:AK),
 (∀x∈ls,qs[x.1]?=some ⟨some x.2.1,.al x.2.2 false,none⟩∧Ag x.2.2=true)→XA ops tab qs ls listed=true→JI ops listed→listed.size=ops.size→
 W6 P ops qs K n (bB (ls.map (·.1)) listed) (AC2 ls F) (AC3 ls L) σ→W6 P ops qs K (n+ls.length) listed (Oa (ls.map (·.2.1)) F) L σ
 |[],listed,F,L,σ,_,_,_,_,h=>h
 |(i,d,z)::r,listed,F,L,σ,hq,hok,hcl,hsz,h=>by
  simp only [XA,AR,B9,CZ] at hok
  obtain ⟨⟨⟨hr,hlay⟩,hnd⟩,hrest⟩:=hok
  have hnd':d ∉ r.map (·.2.1):=fun hm=>by rw [← R9,B9] at hnd;exact hnd hm
  obtain ⟨hi,hz⟩:=hq (i,d,z) (by simp)
  have ih:=fJ htab (n:=n) r (listed.setIfInBounds i true) (put d (.lp d 0) (DS d F)) (Aq d z L) σ (fun x hx=>hq x (by simp [hx])) hrest (hcl.set hr) (by simpa using hsz) h
  rw [aF _ _ _ hnd'] at ih
  exact AA5 htab hi hz hlay (n+r.length) listed _ L σ hcl hsz hr (aE (r.map (·.2.1)) (DS d F) d (.inr (eH d F))) ih
theorem Uh {ops:Array Oper} {tab:Array Nat} {qs:List Q}:∀(ls:List (Nat×Nat×List AV)) (listed:Array Bool),XA ops tab qs ls listed=true→JI ops listed→listed.size=ops.size→JI ops (bB (ls.map (·.1)) listed)∧(bB (ls.map (·.1)) listed).size=ops.size
 |[],listed,_,hc,hs=>⟨hc,hs⟩
 |(i,d,z)::r,listed,hok,hcl,hsz=>by
  simp only [XA,AR,B9] at hok
  exact Uh r _ hok.2 (hcl.set hok.1.1.1) (by simpa using hsz)
def pK (ls:List (Nat×Nat×List AV)) (t:QT):QT:=ls.foldr (fun x acc=>.one ⟨some x.2.1,.al x.2.2 false,none⟩ acc) t
theorem jN:∀(ls:List (Nat×Nat×List AV)) (t:QT) (F:Fm) (L:Lm),XT P K false (pK ls t) F L σ→XT P K false t (AC2 ls F) (AC3 ls L) σ
 |[],t,F,L,h=>h
 |(i,d,z)::r,t,F,L,h=>by
  have h:XQ P ⟨some d,.al z false,none⟩ (XT P K false (pK r t)) F L σ:=h
  have h:Th z false (some d) (XT P K false (pK r t)) F L σ:=h
  exact jN r t _ _ h.2
def Z5 (P:Program) (N:Nat) (esc:List Nat) (pf:List FuncId) (pt:PT) (ops:Array Oper):Option QT:=do
 let qs ← NN P N esc ops (JD ops.size)
 let qs:=qs.map (toP pf)
 let tab:=W8 ops.toList #[]
 let ls ← vC qs (Pt pt).1
 let l0:=El ops.size false
 if XA ops tab qs ls l0&&N5 ops tab qs (Pt pt).2 (bB (ls.map (·.1)) l0) none&&decide ((Pt pt).2.depth+ls.length≤ops.size) then (WE qs (Pt pt).2).map (pK ls) else none
theorem eG {qs:List Q}:∀(l:List Nat) (ls:List (Nat×Nat×List AV)),vC qs l=some ls→∀x∈ls,qs[x.1]?=some ⟨some x.2.1,.al x.2.2 false,none⟩∧Ag x.2.2=true
 |[],ls,h,x,hx=>by simp only [vC,AQ] at h;subst h;cases hx
 |i::l,ls,h,x,hx=>by
  simp only [vC] at h
  split at h
  · rename_i d z hq
    split at h
    · rename_i hz
      simp only [AM] at h
      obtain ⟨r,hr,rfl⟩:=h
      cases hx with
      |head=>exact ⟨hq,hz⟩
      |tail _ hx=>exact eG l r hr x hx
    · cases h
  · cases h
theorem dN {ops:Array Oper} {qs:List Q}:∀(n m:Nat) (listed:Array Bool) (F:Fm) (L:Lm) (σ:AK),n≤m→W6 P ops qs K n listed F L σ→W6 P ops qs K m listed F L σ
 |0,0,listed,F,L,σ,_,h=>h
 |0,m+1,listed,F,L,σ,_,h=>⟨fun _=>h.2,fun i hi=>by rw [h.1] at hi;cases hi⟩
 |n+1,0,listed,F,L,σ,hle,h=>by omega
 |n+1,m+1,listed,F,L,σ,hle,h=>⟨h.1,fun i hi=>by
  obtain ⟨q,hq,hx⟩:=h.2 i hi
  exact ⟨q,hq,Uk (fun F L σ h=>dN n m _ F L σ (by omega) h) hx⟩⟩
theorem B2.AFG (h:B2 base g lam Pr N F L σ a w0 w) {F':Fm} (hF:∀s,F' s=F s∨F' s= .undef):B2 base g lam Pr N F' L σ a w0 w:=by
 refine ⟨fun s=>?_,h.sz,h.df,h.loc,h.inj,h.npr,h.rel⟩
 rcases hF s with e|e
 · rw [e];exact h.tm s
 · rw [e];exact VR.undef
theorem Xl {ops:Array Oper} {esc:List Nat} {pf:List FuncId} {pt:PT} {qt:QT} (hm:P.follows .mixedOrders=true) (hc:Z5 P N esc pf pt ops=some qt) (hx:XT P K false qt F L σ)
 (h:B2 base g lam Pr N F L σ a w0 w) {id:Nat}:(Code.region id ops true).wp P (fun e a' w'=>e= .normal∧FG base Pr N w0 g w K a' w') a w:=by
 simp only [Z5,AU,AF] at hc
 obtain ⟨qs0,hq0,ls,hls,hc⟩:=hc
 split at hc
 case isFalse=>cases hc
 rename_i hp
 simp only [AR,decide_eq_true_eq] at hp
 simp only [AM] at hc
 obtain ⟨t,ht,rfl⟩:=hc
 have hcl:JI ops (El ops.size false):=by
  intro j o ho hj
  have:(El ops.size false).getD j false=false:=by
   simp only [Cr,Array.getElem?_replicate];split<;>rfl
  rw [this] at hj;cases hj
 obtain ⟨hcl2,hsz2⟩:=Uh ls _ hp.1.1 hcl (by simp)
 have hx2:=jN ls t F L hx
 have hany1:=(ZD (P:=P) (K:=K) (fun j i=>X9) _ t ht).1 _ _ _ _ σ (A4 _) hp.1.2 hcl2 hsz2 hx2
 have hany2:=fJ (P:=P) (K:=K) (tab:=W8 ops.toList #[]) (fun j i=>X9) ls _ F L σ (eG _ ls hls) hp.1.1 hcl (by simp) hany1
 have hany:=dN _ ops.size _ _ _ _ hp.2 hany2
 refine wp_region_any hm ?_
 have hF:=h.AFG (YA (ls.map (·.2.1)) F)
 have hdrew:B2 base g lam Pr N (Oa (ls.map (·.2.1)) F) L σ a w0 { w with drawn:=w.drawn+1}:=
  hF.step (w':=w.drew) (Gh.le_refl g) (fun k b hb=>rfl) (hF.rel.grow (w':=w.drew) (A4 _) (fun _ _ _=>rfl) ((Below.refl base w).drew) (fun b hb=>⟨(hF.rel.pr b hb).1,.inl hb⟩))
 exact VV hq0 K _ _ base g lam Pr _ L σ a w0 _ hany hdrew (fun a' w' hA=>⟨rfl,FG.trans (Gh.le_refl g) ⟨A4 _,fun _ _=>rfl⟩ hA⟩)
def lin:QT→Option (List Q)
 | .done=>some []
 | .one q t=>(lin t).map (q::·)
 | .alt _ _ _=>none
theorem vK:∀(t:QT) (ops:List Q) (F:Fm) (L:Lm) (σ:AK),lin t=some ops→BN P K ops F L σ→XT P K false t F L σ
 | .done,ops,F,L,σ,h,hx=>by simp only [lin,AQ] at h;subst h;exact hx
 | .one q t,ops,F,L,σ,h,hx=>by
  simp only [lin,AM] at h
  obtain ⟨l,hl,rfl⟩:=h
  exact Uk (fun F L σ h=>vK t l F L σ hl h) hx
 | .alt _ _ _,ops,F,L,σ,h,_=>by simp [lin] at h
end Go.Ab
