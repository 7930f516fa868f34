/- Regions that draw their order, continued: where operations do not commute, every order is looked at. Regions that draw their order, continued: new local variables may be laid first. Conditions: none. -/
import Derived.Test.YtdbpmhfepfpldaaDoorXAb10b
set_option linter.unusedSimpArgs false
set_option linter.unusedVariables false
set_option maxRecDepth 4000
set_option maxHeartbeats 8000000
open Bool renaming false_eq_true→A4,and_eq_true→AJ,or_eq_true→Bq,not_eq_true'→F4
open Option.some renaming injEq→AD
open List renaming all_eq_true→A6,contains_iff_mem→As,mem_singleton→BR,mem_zipIdx_iff_getElem?→HS,mem_append→Ac,mem_cons→BD,range→Da
open Option renaming bind_eq_some_iff→AA,map_eq_some_iff→AB,getD_some→GR,bind_some→BU,bind_eq_bind→AE
open Array renaming getD_eq_getD_getElem?→BF,getElem?_eq_getElem→Bu,replicate→Bp
open Nat renaming le_refl→AP
namespace Go.Ab
open Go.RowKit
variable {P:Program} {base N:Nat} {g g':Gh} {Pr:Nat→Prop} {σ σ':AF} {w0 w w':World} {lam:Nat→Option Nat} {F:Fm} {L:Lm} {a:Act} {K:BX}
theorem Uk {o:O} {dst:Option Nat} {K':BX} (hk:∀F L σ,K F L σ→K' F L σ) (hx:XO P dst K F L σ o):XO P dst K' F L σ o:=by
 by_cases hV:isV o=true
 · rw [QG hV] at hx ⊢
   obtain ⟨v,h1,h2⟩:=hx
   exact ⟨v,h1,hk _ _ _ h2⟩
 · cases o<;>simp only [isV,not_true_eq_false] at hV
   case box x sh=>
    simp only [XO,HU] at hx ⊢
    refine ⟨hx.1,?_⟩
    have hx:=hx.2
    cases dst with
    |none=>exact hx.elim
    |some d=>cases sh with
     |true=>exact fun i hi=>hk _ _ _ (hx i hi)
     |false=>exact hk _ _ _ hx
   case al z sh=>
    simp only [XO,HU] at hx ⊢
    refine ⟨hx.1,?_⟩
    have hx:=hx.2
    cases dst with
    |none=>exact hx.elim
    |some d=>cases sh with
     |true=>exact fun i hi=>hk _ _ _ (hx i hi)
     |false=>exact hk _ _ _ hx
   case st x v n=>
    simp only [XO,XSt] at hx ⊢
    obtain ⟨h1,h2,h3,h4⟩:=hx
    refine ⟨h1,h2,h3,?_⟩
    split at h4
    · exact hk _ _ _ h4
    · exact h4.elim
   case msl e s b z l c=>
    obtain ⟨k,k',n,h1,h2,h3,h4,h5,h6⟩:=hx
    exact ⟨k,k',n,h1,h2,h3,h4,h5,fun i hi=>hk _ _ _ (h6 i hi)⟩
   case Jz e s b x y=>
    obtain ⟨n,cs,σ1,srows,h1,h2,h3,h4,h5,h6,h7⟩:=hx
    exact ⟨n,cs,σ1,srows,h1,h2,h3,fun e=>hk _ _ _ (h4 e),h5,h6,fun e t ht=>hk _ _ _ (h7 e t ht)⟩
   case trn x y=>
    obtain ⟨k,s,e,cs,σ1,h1,h2⟩:=hx
    exact ⟨k,s,e,cs,σ1,h1,fun t ht=>hk _ _ _ (h2 t ht)⟩
   case K6 e s l z ps=>
    obtain ⟨cs,h1,h2⟩:=hx
    exact ⟨cs,h1,h2.imp (fun h2 t ht=>hk _ _ _ (h2 t ht)) fun ⟨ds,h3,h4,h5⟩=>⟨ds,h3,h4,fun t ht=>hk _ _ _ (h5 t ht)⟩⟩
   case app e s b x y=>
    rcases hx with ⟨rows,σ1,srows,h1,h2,h3,h4,h5,h6⟩|⟨rows,srows,h1,h2,h3,h4,h5,h6,h7⟩
    · exact .inl ⟨rows,σ1,srows,h1,h2,h3,h4,h5,fun t ht=>hk _ _ _ (h6 t ht)⟩
    · exact .inr ⟨rows,srows,h1,h2,h3,h4,h5,h6,hk _ _ _ h7⟩
   case call f args=>
    obtain ⟨h1,R,h2,h3⟩:=hx
    exact ⟨h1,R,h2,fun v σ' hv=>hk _ _ _ (h3 v σ' hv)⟩
   case G7 x args=>
    obtain ⟨f,first,caps,h0,hb,h1,R,h2,h3⟩:=hx
    exact ⟨f,first,caps,h0,hb,h1,R,h2,fun v σ' hv=>hk _ _ _ (h3 v σ' hv)⟩
   case ex k xs=>
    simp only [XO,XEx,hV,A4,if_false] at hx ⊢
    exact ⟨hx.1,hx.2.mono fun v σ' _ hv=>hk _ _ _ hv⟩
theorem Hl {q:Q} {K':BX} (hk:∀F L σ,K F L σ→K' F L σ) (hx:XQ P q K F L σ):XQ P q K' F L σ:=by
 unfold XQ at hx ⊢
 cases hc:gd F q.grd with
 |none=>rw [hc] at hx;exact hx.elim
 |some b=>
  rw [hc] at hx
  cases b
  · exact hk _ _ _ hx
  · exact Uk hk hx
inductive PT where
 |done
 |one (i:Nat) (t:PT)
 |alt (i:Nat) (t r:PT)
 |lay (i:Nat) (t:PT)
inductive QT where
 |done
 |one (q:Q) (t:QT)
 |alt (q:Q) (t r:QT)
def XT (P:Program) (K:BX):Bool→QT→BX
 |false,.done=>K
 |true,.done=>fun _ _ _=>True
 |_,.one q t=>XQ P q (XT P K false t)
 |_,.alt q t r=>fun F L σ=>XQ P q (XT P K false t) F L σ∧XT P K true r F L σ
def PT.depth:PT→Nat
 | .done=>0
 | .one _ t=>t.depth+1
 | .alt _ t r=>max (t.depth+1) r.depth
 | .lay _ t=>t.depth+1
def Ip (qs:List Q):PT→Option QT
 | .done=>some .done
 | .one i t=>(qs[i]?).bind fun q=>(Ip qs t).map (.one q ·)
 | .alt i t r=>(qs[i]?).bind fun q=>(Ip qs t).bind fun t'=>(Ip qs r).map (.alt q t' ·)
 | .lay i t=>(qs[i]?).bind fun q=>(Ip qs t).map (.one q ·)
def Ew (ops:Array Oper) (tab:Array Nat) (qs:List Q):PT→Array Bool→Option (List Nat)→Bool
 | .done,listed,none=>(Region.ready .any ops listed).isEmpty
 | .done,listed,some l=>(Region.ready .any ops listed).all (l.contains ·)
 | .one i t,listed,none=>(Region.ready .any ops listed).contains i&&(Region.ready .any ops listed==[i]||KW tab qs listed i)&&Ew ops tab qs t (listed.setIfInBounds i true) none
 | .one i t,listed,some l=>(Region.ready .any ops listed).contains i&&(Region.ready .any ops listed).all (fun j=>j==i||l.contains j)&&Ew ops tab qs t (listed.setIfInBounds i true) none
 | .alt i t r,listed,e=>(Region.ready .any ops listed).contains i&&Ew ops tab qs t (listed.setIfInBounds i true) none&&Ew ops tab qs r listed (some (i::e.getD []))
 | .lay _ _,_,_=>false
theorem KX {ops:Array Oper} {tab:Array Nat} (htab:∀j i,(tab.getD j 0).testBit i=true→Anc ops j i) {qs:List Q}:∀(t:PT) (qt:QT),Ip qs t=some qt→
 (∀n listed F L σ,t.depth≤n→Ew ops tab qs t listed none=true→De ops listed→listed.size=ops.size→XT P K false qt F L σ→JA P ops qs K n listed F L σ)∧
 (∀n listed l F L σ,t.depth≤n+1→Ew ops tab qs t listed (some l)=true→De ops listed→listed.size=ops.size→XT P K true qt F L σ→
   ∀j∈Region.ready .any ops listed,j ∉ l→∃q,qs[j]?=some q∧XQ P q (JA P ops qs K n (listed.setIfInBounds j true)) F L σ)
 | .done,qt,hp=>by
  simp only [Ip,AD] at hp;subst hp
  refine ⟨fun n listed F L σ _ hp _ _ hx=>?_,fun n listed l F L σ _ hp _ _ _ j hj hjl=>?_⟩
  · simp only [Ew,List.isEmpty_iff] at hp
    cases n with
    |zero=>exact ⟨hp,hx⟩
    |succ n=>exact ⟨fun _=>hx,fun i hi=>by rw [hp] at hi;cases hi⟩
  · simp only [Ew,A6,As] at hp
    exact absurd (hp j hj) hjl
 | .one i t,qt,hp=>by
  simp only [Ip,AA,AB] at hp
  obtain ⟨q,hq,t',ht',rfl⟩:=hp
  obtain ⟨ih,_⟩:=KX htab t t' ht'
  refine ⟨fun n listed F L σ hd hp hcl hsz hx=>?_,fun n listed l F L σ hd hp hcl hsz hx j hj hjl=>?_⟩
  · simp only [PT.depth] at hd
    obtain ⟨m,rfl⟩:∃m,n=m+1:=⟨n - 1,by omega⟩
    simp only [Ew,AJ,Bq,As,beq_iff_eq] at hp
    obtain ⟨⟨hr,hok⟩,hrest⟩:=hp
    have hx:XQ P q (XT P K false t') F L σ:=hx
    have ih':=fun F L σ=>ih m (listed.setIfInBounds i true) F L σ (by omega) hrest (hcl.set hr) (by simpa using hsz)
    rcases hok with hok|hok
    · refine ⟨fun h=>(by rw [h] at hr;cases hr),fun j hj=>?_⟩
      rw [hok] at hj
      simp only [BR] at hj
      subst hj
      exact ⟨_,hq,Hl (fun F L σ h=>ih' F L σ h) hx⟩
    · unfold KW at hok
      rw [hq] at hok
      simp only [AJ,A6] at hok
      obtain ⟨v,hy,hk⟩:=(Rg hok.1 _).1 hx
      refine Lf htab hq hok.1 m listed F L σ v hcl hsz (fun j qj hj hji hun=>?_) hr hy (ih' _ _ _ hk)
      have hmem:(qj,j)∈qs.zipIdx:=by
       rw [HS];exact hj
      have:=hok.2 (qj,j) hmem
      simp only [Bq,beq_iff_eq] at this
      rcases this with (h|h)|h
      · exact absurd h hji
      · rw [hun] at h;cases h
      · exact h
  · simp only [PT.depth] at hd
    simp only [Ew,AJ,A6,As,Bq,beq_iff_eq] at hp
    obtain ⟨⟨hr,hall⟩,hrest⟩:=hp
    have hx:XQ P q (XT P K false t') F L σ:=hx
    rcases hall j hj with rfl|h
    · exact ⟨q,hq,Hl (fun F L σ h=>ih n _ F L σ (by omega) hrest (hcl.set hr) (by simpa using hsz) h) hx⟩
    · exact absurd h hjl
 | .alt i t r,qt,hp=>by
  simp only [Ip,AA,AB] at hp
  obtain ⟨q,hq,t',ht',r',hr',rfl⟩:=hp
  obtain ⟨ih,_⟩:=KX htab t t' ht'
  obtain ⟨_,ihr⟩:=KX htab r r' hr'
  refine ⟨fun n listed F L σ hd hp hcl hsz hx=>?_,fun n listed l F L σ hd hp hcl hsz hx j hj hjl=>?_⟩
  · simp only [PT.depth] at hd
    obtain ⟨m,rfl⟩:∃m,n=m+1:=⟨n - 1,by omega⟩
    simp only [Ew,AJ,As,Option.getD_none] at hp
    obtain ⟨⟨hr,hrest⟩,hp2⟩:=hp
    obtain ⟨hx1,hx2⟩:=hx
    refine ⟨fun h=>(by rw [h] at hr;cases hr),fun j hj=>?_⟩
    by_cases hji:j=i
    · subst hji
      exact ⟨q,hq,Hl (fun F L σ h=>ih m _ F L σ (by omega) hrest (hcl.set hr) (by simpa using hsz) h) hx1⟩
    · exact ihr m listed [i] F L σ (by omega) hp2 hcl hsz hx2 j hj (by simpa using hji)
  · simp only [PT.depth] at hd
    simp only [Ew,AJ,As,GR] at hp
    obtain ⟨⟨hr,hrest⟩,hp2⟩:=hp
    obtain ⟨hx1,hx2⟩:=hx
    by_cases hji:j=i
    · subst hji
      exact ⟨q,hq,Hl (fun F L σ h=>ih n _ F L σ (by omega) hrest (hcl.set hr) (by simpa using hsz) h) hx1⟩
    · exact ihr n listed (i::l) F L σ (by omega) hp2 hcl hsz hx2 j hj (by simp [hji,hjl])
 | .lay i t,qt,hp=>⟨fun n listed F L σ _ hp=>by simp [Ew] at hp,fun n listed l F L σ _ hp=>by simp [Ew] at hp⟩
end Go.Ab
namespace Go.Ab
open Go.RowKit
variable {P:Program} {base N:Nat} {g g':Gh} {Pr:Nat→Prop} {σ σ':AF} {w0 w w':World} {lam:Nat→Option Nat} {F:Fm} {L:Lm} {a:Act} {K:BX} {d:Nat} {z:List AV}
theorem VR.BJ {x:AV} {v:Value} (h:VR g x v) (d:Nat):x.BJ d=false:=by cases h<;>rfl
theorem JT {x:AV} (h:x.BC=true) (d:Nat):x.BJ d=false:=by cases x<;>first|rfl|(cases h;done)
theorem Ns {x:AV} (h:x.BH=true) (d:Nat):x.BJ d=false:=by cases x<;>first|rfl|(cases h;done)
theorem AM.BJ {f:FuncId} {args:List AV} {Q:AV→AF→Prop} (h:AM P f args σ Q) (d:Nat):AM P f args σ (fun v σ'=>Q v σ'∧v.BJ d=false):=
 fun base g Pr w0 w vs hr hv=>(h base g Pr w0 w vs hr hv).mono fun _ _ ⟨v,av,g',σ',a,b,c,d',e,q⟩=>⟨v,av,g',σ',a,b,c,d',e,q,b.BJ d⟩
def Off (d:Nat) (F:Fm):Prop:=∀s,(F s).BJ d=false
theorem Off.AY (h:Off d F) {dst:Option Nat} {v:AV} (hv:v.BJ d=false):Off d (AY dst v F):=by
 intro s
 cases dst with
 |none=>exact h s
 |some k=>
  simp only [Ab.AY,Ab.put]
  split
  · exact hv
  · exact h s
theorem Off.B4 (h:Off d F) (k:Nat):Off d (B4 k F):=by
 intro s
 simp only [Ab.B4]
 split
 · rfl
 · exact h s
theorem M0 (d:Nat) (F:Fm):Off d (B4 d F):=by
 intro s
 simp only [B4]
 split
 · rfl
 · rename_i h;simpa using h
def cOk:X→Bool
 | .t _=>true
 | .c v=>v.BC
theorem HA (h:Off d F) {x:X} (hx:cOk x=true):(xv F x).BJ d=false:=by
 cases x with
 |t n=>exact h n
 |c v=>exact JT hx d
def HD:O→Bool
 | .mv x| .fld x _| .ld x _| .ldl x _| .nck x=>cOk x
 | .pick _ x y=>cOk x&&cOk y
 | .st x _ _=>cOk x
 |_=>true
theorem ND {k:Nat} (h:k≠d) (z:List AV) (L:Lm):Ba d z L k=L k:=by simp [Ba,h]
theorem Th {p:AV} (hp:p.BJ d=false) (n:Option Nat):ldA (Ba d z L) σ p n=ldA L σ p n:=by
 cases p<;>try rfl
 · rename_i dx;cases dx<;>rfl
 rename_i k o
 have:k≠d:=by simpa [AV.BJ] using hp
 simp [ldA,ND this]
theorem SZ {p:AV} (hp:p.BJ d=false) (n:Option Nat):Mx (Ba d z L) p n=Mx L p n:=by
 cases p<;>try rfl
 rename_i k o
 have:k≠d:=by simpa [AV.BJ] using hp
 simp [Mx,ND this]
theorem VS (h:Off d F) {o:O} (hc:HD o=true):pv F (Ba d z L) σ o=pv F L σ o:=by
 cases o<;>try rfl
 case ld x n=>exact Th (HA h hc) n
 case ldl x n=>exact SZ (HA h hc) n
theorem HL {cs:List AV} {o:Nat} {n:Option Nat} {v:AV} (h:rdC cs o n=some v):v.BJ d=false:=by
 cases n with
 |none=>
  simp only [rdC,AA] at h
  obtain ⟨v0,_,h⟩:=h
  obtain ⟨rfl,hc⟩:=Hr h
  exact Ns hc d
 |some n=>
  simp only [rdC] at h
  split at h
  · cases h;rfl
  · cases h
theorem SN {op:BinOp} {k:IntKind} {x y:Int} {v:AV} (h:Qg op k x y=some v):v.BJ d=false:=by
 unfold Qg at h
 split at h<;>first|(cases h;rfl)|(split at h<;>first|(cases h;done)|(cases h;rfl))|(cases h;done)
theorem TK {op:BinOp} {x y:List UInt8} {v:AV} (h:OO op x y=some v):v.BJ d=false:=by
 unfold OO at h
 split at h<;>first|(cases h;rfl)|(split at h<;>first|(cases h;done)|(cases h;rfl))|(cases h;done)
theorem Pu {b:Bool} {x y v:AV} (h:mmA b x y=some v):v.BJ d=false:=by
 unfold mmA at h
 split at h
 · split at h
   · cases h;rfl
   · cases h
 · cases h
theorem Mt {rows:List (List DV)} {m:Int} {n:Nat} {v:AV} (h:ixR rows m n=some v):v.BJ d=false:=by
 unfold ixR at h
 split at h
 · simp only [AA] at h
   obtain ⟨r,_,h⟩:=h
   split at h
   · cases h;rfl
   · cases h
 · cases h
theorem Tf {k:EK} {args:List AV} {v:AV} (h:exP k args=some v):v.BJ d=false:=by
 obtain ⟨_,h⟩:=HG h
 unfold EZ at h
 split at h
 · cases h;rfl
 · simp only [AB] at h;obtain ⟨_,_,rfl⟩:=h;rfl
 · simp only [AB] at h;obtain ⟨_,_,rfl⟩:=h;rfl
 · cases h;rfl
 · split at h
   · cases h;rfl
   · cases h
 · cases h
theorem UF (h:Off d F) {o:O} (hc:HD o=true) {v:AV} (hv:pv F L σ o=some v):v.BJ d=false:=by
 cases o<;>simp only [pv] at hv<;>try (cases hv;done)
 case mv x=>cases hv;exact HA h hc
 case ex k xs=>exact Tf hv
 case pick c x y=>
  simp only [HD,AJ] at hc
  unfold OC at hv
  split at hv
  · cases hv;split
    · exact HA h hc.1
    · exact HA h hc.2
  · cases hv
 case fld x off=>
  have hx:=HA h hc
  generalize xv F x=p at hv hx
  cases p<;>simp only [Oq] at hv<;>try (cases hv;done)
  · rename_i dx;cases dx<;>simp only at hv<;>first|(cases hv;done)|(cases hv;rfl)
  · cases hv;exact hx
  · cases hv;rfl
  · cases hv;rfl
 case ld x n=>
  generalize xv F x=p at hv
  cases p<;>simp only [ldA] at hv<;>try (cases hv;done)
  · rename_i dx;cases dx<;>simp only at hv<;>first|(cases hv;done)|exact HL hv
  · simp only [AA] at hv;obtain ⟨_,_,hv⟩:=hv;exact HL hv
  · simp only [AA] at hv;obtain ⟨_,_,hv⟩:=hv;exact HL hv
  · exact HL hv
 case ldl x n=>
  generalize xv F x=p at hv
  cases p<;>simp only [Mx] at hv<;>try (cases hv;done)
  simp only [AA] at hv;obtain ⟨_,_,hv⟩:=hv;exact HL hv
 case ix x i n=>
  unfold ixA at hv
  split at hv
  · split at hv
    · cases hv;rfl
    · cases hv
  · split at hv
    · cases hv;rfl
    · cases hv
  · exact Mt hv
  · exact Mt hv
  · exact Mt hv
  · cases hv
 case TD x i=>
  unfold OL at hv
  split at hv
  · split at hv
    · simp only [AB] at hv;obtain ⟨_,_,rfl⟩:=hv;rfl
    · cases hv
  · cases hv
 case len x=>
  unfold Gk at hv
  split at hv<;>first|(cases hv;rfl)|(cases hv;done)
 case P1 x=>
  unfold M7 at hv
  split at hv<;>first|(cases hv;rfl)|(cases hv;done)
 case bin op x y=>
  unfold QO at hv
  split at hv
  · split at hv
    · exact SN hv
    · cases hv
  · exact TK hv
  · cases hv
 case N2 op x y=>
  unfold MM at hv
  split at hv<;>first|(cases hv;rfl)|(cases hv;done)
 case un op x=>
  unfold unA at hv
  split at hv<;>first|(cases hv;rfl)|(cases hv;done)
 case conv k x=>
  unfold MT at hv
  split at hv<;>first|(cases hv;rfl)|(cases hv;done)
 case bld z ps=>simp only [AB] at hv;obtain ⟨_,_,rfl⟩:=hv;rfl
 case bsl s n z ps=>simp only [AB] at hv;obtain ⟨_,_,rfl⟩:=hv;rfl
 case mkf f x y=>
  split at hv
  · cases hv;rfl
  · cases hv
 case ext x i=>
  unfold Q8 at hv
  split at hv
  · simp only [AA] at hv
    obtain ⟨v0,_,hv⟩:=hv
    obtain ⟨rfl,hn⟩:=LM hv
    exact JT hn d
  · cases hv
 case nck x=>
  have hx:=HA h hc
  generalize xv F x=p at hv hx
  cases p<;>simp only [S9] at hv<;>try (cases hv;done)
  · rename_i dx;cases dx<;>simp only at hv<;>first|(cases hv;done)|(cases hv;rfl)
  · cases hv;exact hx
  · cases hv;rfl
  · cases hv;rfl
 case mm b x y=>exact Pu hv
 case fd x off n=>
  generalize xv F x=p at hv
  cases p<;>simp only [fdA] at hv<;>try (cases hv;done)
  exact HL hv
 case ssl x lo hi=>
  unfold TI at hv
  split at hv
  · simp only [AB] at hv;obtain ⟨_,_,rfl⟩:=hv;rfl
  · cases hv
 case sls x lo hi mx n=>
  unfold R0 at hv
  split at hv
  · split at hv
    · cases hv;rfl
    · cases hv
  · simp only [AA] at hv
    obtain ⟨_,_,hv⟩:=hv
    split at hv
    · cases hv;rfl
    · cases hv
  · simp only [AA] at hv
    obtain ⟨_,_,hv⟩:=hv
    split at hv
    · cases hv;rfl
    · cases hv
  simp only [AA] at hv
  obtain ⟨rows,_,hv⟩:=hv
  unfold TF at hv
  split at hv
  · simp only [AA] at hv
    obtain ⟨b,_,hv⟩:=hv
    split at hv
    · cases hv;rfl
    · split at hv
      · cases hv;rfl
      · cases hv
    · cases hv
  · cases hv
 case PO ne x=>
  unfold M3 at hv
  split at hv<;>first|(cases hv;rfl)|(cases hv;done)
 case OM ne n x y=>
  unfold M8 at hv
  split at hv
  · split at hv
    · simp only [AB] at hv;obtain ⟨_,_,rfl⟩:=hv;rfl
    · cases hv
  · cases hv
 case mm3 b x y z=>
  simp only [AA] at hv
  obtain ⟨_,_,hv⟩:=hv
  exact Pu hv
 case Ro x=>simp only [AB] at hv;obtain ⟨_,_,rfl⟩:=hv;rfl
theorem Bh {dst:Option Nat} (h:dst≠some d) (v x:AV) (F:Fm):AY dst v (put d x F)=put d x (AY dst v F):=
 JW (d:=dst) (e:=some d) (fun k hk he=>h (by rw [hk,he])) v x F
theorem Gn {k:Nat} (h:d≠k) (F:Fm):B4 k (put d (.lp d 0) F)=put d (.lp d 0) (B4 k F):=by
 funext s
 simp only [B4,put]
 by_cases e:s=d
 · subst e;simp [AV.BJ,h]
 · simp [e]
theorem JV {k:Nat} (h:k≠d) (x y:List AV) (L:Lm):Ba k x (Ba d y L)=Ba d y (Ba k x L):=by
 funext s
 simp only [Ba]
 by_cases e:s=k
 · subst e;simp [h]
 · simp [e]
theorem Ul {o:O} {dst:Option Nat} (hN:Off d F) (hc:HD o=true) (hl:∀s∈Dk o,s≠d) (hd:dst≠some d) (hx:XO P dst K (put d (.lp d 0) F) (Ba d z L) σ o):
 XO P dst (fun F' L' σ'=>Off d F'∧K (put d (.lp d 0) F') (Ba d z L') σ') F L σ o:=by
 have hF:∀s∈Dk o,put d (.lp d 0) F s=F s:=fun s hs=>by simp [put,hl s hs]
 by_cases hV:isV o=true
 · rw [QG hV] at hx ⊢
   obtain ⟨u,h1,h2⟩:=hx
   have h1:=K3 hF h1
   have h3:Yv P F L σ u o∧u.BJ d=false:=by
    cases o<;>try (cases hV;done)
    case Jo f args=>exact ⟨h1,JT h1.2.1 d⟩
    all_goals
     simp only [Yv] at h1 ⊢
     rw [VS hN hc] at h1
     exact ⟨h1,UF hN hc h1⟩
   refine ⟨u,h3.1,hN.AY h3.2,?_⟩
   rw [← Bh hd];exact h2
 · cases o<;>simp only [isV,not_true_eq_false] at hV<;>simp only [Dk,Ac] at hF
   case box x sh=>
    simp only [XO,HU] at hx ⊢
    rw [← A1 hF]
    refine ⟨hx.1,?_⟩
    have hx:=hx.2
    cases dst with
    |none=>exact hx.elim
    |some e=>
     have hne:d≠e:=fun h=>hd (by rw [h])
     cases sh with
     |true=>exact fun i hi=>⟨hN.AY (dst:=some e) (v:= .gp i 0) rfl,by have:=hx i hi;rw [show put e (.gp i 0) (put d (.lp d 0) F)=put d (.lp d 0) (put e (.gp i 0) F) from Bh (dst:=some e) hd _ _ _] at this;exact this⟩
     |false=>
      refine ⟨(hN.B4 e).AY (dst:=some e) (v:= .lp e 0) (by simp [AV.BJ];exact Ne.symm hne),?_⟩
      have hx:K (put e (.lp e 0) (B4 e (put d (.lp d 0) F))) (Ba e (xv (put d (.lp d 0) F) x).cells (Ba d z L)) σ:=hx
      rw [Gn hne,JV (Ne.symm hne),show put e (.lp e 0) (put d (.lp d 0) (B4 e F))=put d (.lp d 0) (put e (.lp e 0) (B4 e F)) from Bh (dst:=some e) hd _ _ _] at hx
      exact hx
   case al y sh=>
    simp only [XO,HU] at hx ⊢
    refine ⟨hx.1,?_⟩
    have hx:=hx.2
    cases dst with
    |none=>exact hx.elim
    |some e=>
     have hne:d≠e:=fun h=>hd (by rw [h])
     cases sh with
     |true=>exact fun i hi=>⟨hN.AY (dst:=some e) (v:= .gp i 0) rfl,by have:=hx i hi;rw [show put e (.gp i 0) (put d (.lp d 0) F)=put d (.lp d 0) (put e (.gp i 0) F) from Bh (dst:=some e) hd _ _ _] at this;exact this⟩
     |false=>
      refine ⟨(hN.B4 e).AY (dst:=some e) (v:= .lp e 0) (by simp [AV.BJ];exact Ne.symm hne),?_⟩
      have hx:K (put e (.lp e 0) (B4 e (put d (.lp d 0) F))) (Ba e y (Ba d z L)) σ:=hx
      rw [Gn hne,JV (Ne.symm hne),show put e (.lp e 0) (put d (.lp d 0) (B4 e F))=put d (.lp d 0) (put e (.lp e 0) (B4 e F)) from Bh (dst:=some e) hd _ _ _] at hx
      exact hx
   case st x y n=>
    simp only [XO,XSt] at hx ⊢
    rw [A1 (F:=put d (.lp d 0) F) (F':=F) (fun s hs=>hF s (.inl hs)),A1 (F:=put d (.lp d 0) F) (F':=F) (fun s hs=>hF s (.inr hs))] at hx
    obtain ⟨h1,h2,h3,h4⟩:=hx
    refine ⟨h1,h2,h3,?_⟩
    have hp:=HA hN hc
    generalize xv F x=p at hp h4
    cases p<;>simp only [stA] at h4 ⊢<;>try (exact h4.elim)
    · rename_i k o2
      have hk:k≠d:=by simpa [AV.BJ] using hp
      rw [ND hk] at h4
      cases hL:L k with
      |none=>rw [hL] at h4;exact h4.elim
      |some cs=>
       rw [hL] at h4
       simp only [BU] at h4 ⊢
       by_cases hle:o2+(xv F y).cells.length≤cs.length
       · rw [if_pos hle] at h4 ⊢
         refine ⟨hN,?_⟩
         have h4:K (put d (.lp d 0) F) (Ba k (wr cs o2 (xv F y).cells) (Ba d z L)) σ:=h4
         rw [JV hk] at h4;exact h4
       · rw [if_neg hle] at h4;exact h4.elim
    · rename_i i o2
      cases hb:σ.blk i with
      |none=>rw [hb] at h4;exact h4.elim
      |some cs=>
       rw [hb] at h4
       simp only [BU] at h4 ⊢
       by_cases hle:o2+(xv F y).cells.length≤cs.length
       · rw [if_pos hle] at h4 ⊢;exact ⟨hN,h4⟩
       · rw [if_neg hle] at h4;exact h4.elim
   case msl e s b y l c=>
    obtain ⟨k,k',n,h1,h2,h3,h4,h5,h6⟩:=hx
    refine ⟨k,k',n,by rw [← A1 (fun s hs=>hF s (.inl hs))];exact h1,by rw [← A1 (fun s hs=>hF s (.inr hs))];exact h2,h3,h4,h5,fun i hi=>⟨hN.AY rfl,?_⟩⟩
    rw [← Bh hd];exact h6 i hi
   case app e s b x y=>
    rcases hx with ⟨rows,σ1,srows,h1,h2,h3,h4,h5,h6⟩|⟨rows,srows,h1,h2,h3,h4,h5,h6,h7⟩
    · refine .inl ⟨rows,σ1,srows,by rw [← A1 (fun s hs=>hF s (.inl hs))];exact h1,by rw [← A1 (fun s hs=>hF s (.inr hs))];exact h2,h3,h4,h5,fun t ht=>⟨hN.AY rfl,?_⟩⟩
      rw [← Bh hd];exact h6 t ht
    · refine .inr ⟨rows,srows,by rw [← A1 (fun s hs=>hF s (.inl hs))];exact h1,by rw [← A1 (fun s hs=>hF s (.inr hs))];exact h2,h3,h4,h5,h6,⟨hN.AY rfl,?_⟩⟩
      rw [← Bh hd];exact h7
   case Jz e s b x y=>
    obtain ⟨n,cs,σ1,srows,h1,h2,h3,h4,h5,h6,h7⟩:=hx
    refine ⟨n,cs,σ1,srows,by rw [← A1 (fun s hs=>hF s (.inl hs))];exact h1,by rw [← A1 (fun s hs=>hF s (.inr hs))];exact h2,h3,fun e=>⟨hN.AY ?_,?_⟩,h5,h6,fun e t ht=>⟨hN.AY rfl,?_⟩⟩
    · unfold Em at h1
      rw [← A1 (fun s hs=>hF s (.inl hs))]
      generalize xv _ x=xx at h1
      cases xx<;>first|rfl|(cases h1;done)
    · rw [← Bh hd,← A1 (fun s hs=>hF s (.inl hs))];exact h4 e
    · rw [← Bh hd];exact h7 e t ht
   case trn x y=>
    obtain ⟨k,s,e,cs,σ1,h1,h2⟩:=hx
    refine ⟨k,s,e,cs,σ1,by rw [← A1 (fun s hs=>hF s (.inl hs)),← A1 (fun s hs=>hF s (.inr hs))];exact h1,fun t ht=>⟨hN.AY rfl,?_⟩⟩
    rw [← Bh hd];exact h2 t ht
   case K6 e s l y ps=>
    obtain ⟨cs,h1,h2⟩:=hx
    refine ⟨cs,by rw [← FT _ _ hF];exact h1,h2.imp (fun h2 t ht=>⟨hN.AY rfl,?_⟩) fun ⟨ds,h3,h4,h5⟩=>⟨ds,h3,h4,fun t ht=>⟨hN.AY rfl,?_⟩⟩⟩
    · rw [← Bh hd];exact h2 t ht
    · rw [← Bh hd];exact h5 t ht
   case call f args=>
    obtain ⟨h1,R,h2,h3⟩:=hx
    rw [Cl hF] at h1 h2
    refine ⟨h1,_,h2.BJ d,fun u σ' hv=>⟨hN.AY hv.2,?_⟩⟩
    rw [← Bh hd];exact h3 u σ' hv.1
   case G7 x args=>
    obtain ⟨f,first,caps,h0,hb,h1,R,h2,h3⟩:=hx
    rw [Cl (fun s hs=>hF s (.inr hs))] at h1 h2
    refine ⟨f,first,caps,by rw [← A1 (fun s hs=>hF s (.inl hs))];exact h0,hb,h1,_,h2.BJ d,fun u σ' hv=>⟨hN.AY hv.2,?_⟩⟩
    rw [← Bh hd];exact h3 u σ' hv.1
   case ex k xs=>
    simp only [XO,XEx,hV,A4,if_false] at hx ⊢
    rw [Cl hF] at hx
    refine ⟨hx.1,hx.2.mono fun u σ' hu hv=>⟨hN.AY (hu d),?_⟩⟩
    rw [← Bh hd];exact hv
theorem Un {q:Q} (hN:Off d F) (hc:HD q.o=true) (hl:∀s∈q.looks,s≠d) (hd:q.dst≠some d) (hx:XQ P q K (put d (.lp d 0) F) (Ba d z L) σ):
 XQ P q (fun F' L' σ'=>Off d F'∧K (put d (.lp d 0) F') (Ba d z L') σ') F L σ:=by
 have h1:∀s∈Dk q.o,s≠d:=fun s hs=>hl s (by simp [Q.looks,hs])
 unfold XQ at hx ⊢
 rw [Kx (F:=put d (.lp d 0) F) (F':=F) (fun s hs=>by simp [put,hl s hs])] at hx
 cases hc2:gd F q.grd with
 |none=>rw [hc2] at hx;exact hx.elim
 |some b=>
  rw [hc2] at hx
  cases b
  · have hx:K (AY q.dst (.tup []) (put d (.lp d 0) F)) (Ba d z L) σ:=hx
    rw [Bh hd] at hx
    exact ⟨hN.AY rfl,hx⟩
  · exact Ul hN hc h1 hd hx
theorem RM (h:Off d F):B4 d F=F:=by
 funext s
 simp [B4,h s]
def Uf (tab:Array Nat) (qs:List Q) (i d:Nat):Bool:=
 qs.zipIdx.all fun (qj,j)=>j==i||(tab.getD j 0).testBit i||(HD qj.o&& !qj.looks.contains d&&qj.dst != some d)
theorem UP {ops:Array Oper} {tab:Array Nat} (htab:∀j i,(tab.getD j 0).testBit i=true→Anc ops j i) {qs:List Q} {i:Nat} (hi:qs[i]?=some ⟨some d,.al z false,none⟩) (hz:AS z=true) (hlay:Uf tab qs i d=true):
 ∀(fuel:Nat) (listed:Array Bool) (F:Fm) (L:Lm) (σ:AF),De ops listed→listed.size=ops.size→i∈Region.ready .any ops listed→Off d F→
  JA P ops qs K fuel (listed.setIfInBounds i true) (put d (.lp d 0) F) (Ba d z L) σ→JA P ops qs K (fuel+1) listed F L σ:=by
 have hself:∀(K2:BX) (F:Fm) (L:Lm) (σ:AF),Off d F→K2 (put d (.lp d 0) F) (Ba d z L) σ→XQ P ⟨some d,.al z false,none⟩ K2 F L σ:=fun K2 F L σ hN h=>by
  show HU z false (some d) K2 F L σ
  refine ⟨hz,?_⟩
  show K2 (put d (.lp d 0) (B4 d F)) (Ba d z L) σ
  rw [RM hN];exact h
 intro fuel
 induction fuel with
 |zero=>
  intro listed F L σ hcl hsz hr hN H
  refine ⟨fun h=>(by rw [h] at hr;cases hr),fun j hj=>?_⟩
  by_cases hji:i=j
  · subst hji;exact ⟨_,hi,hself _ _ _ _ hN H⟩
  · have:=Fj hj hji
    rw [H.1] at this;cases this
 |succ fuel ih=>
  intro listed F L σ hcl hsz hr hN H
  refine ⟨fun h=>(by rw [h] at hr;cases hr),fun j hj=>?_⟩
  by_cases hji:i=j
  · subst hji;exact ⟨_,hi,hself _ _ _ _ hN H⟩
  · obtain ⟨qj,hqj,hxj⟩:=H.2 j (Fj hj hji)
    obtain ⟨hjlt,hjun,oj,hoj,hjall⟩:=EC.1 hj
    have hiun:=(EC.1 hr).2.1
    have hilt:=(EC.1 hr).1
    have hmem:(qj,j)∈qs.zipIdx:=by rw [HS];exact hqj
    have hb:=A6.1 hlay (qj,j) hmem
    simp only [Bq,beq_iff_eq,AJ,F4,bne_iff_ne] at hb
    rcases hb with (hb|hanc)|⟨⟨hc,hlk⟩,hdst⟩
    · exact absurd hb.symm hji
    · have h1:=K5 hcl (htab j i hanc) (fun o ho=>by rw [hoj] at ho;cases ho;exact hjall)
      rw [BF,Bu (by omega)] at h1 hiun
      simp at h1 hiun
      rw [h1] at hiun;cases hiun
    · refine ⟨qj,hqj,?_⟩
      have hlk':∀s∈qj.looks,s≠d:=fun s hs he=>by subst he;rw [← Bool.not_eq_true,As] at hlk;exact hlk hs
      have hcomm:(listed.setIfInBounds i true).setIfInBounds j true=(listed.setIfInBounds j true).setIfInBounds i true:=Array.setIfInBounds_comm _ _ hji
      refine Hl (fun F' L' σ' h=>?_) (Un hN hc hlk' hdst hxj)
      refine ih _ F' L' σ' (hcl.set hj) (by simpa using hsz) (Fj hr (Ne.symm hji)) h.1 ?_
      rw [← hcomm];exact h.2
def F2:List Nat→Fm→Fm
 |[],F=>F
 |d::ds,F=>F2 ds (B4 d F)
theorem Jp:∀(ds:List Nat) (F:Fm) (s:Nat),F2 ds F s=F s∨F2 ds F s= .undef
 |[],F,s=>.inl rfl
 |d::ds,F,s=>by
  rcases Jp ds (B4 d F) s with h|h
  · rw [F2,h];simp only [B4];split<;>simp
  · exact .inr h
theorem LR:∀(ds:List Nat) (F:Fm) (d:Nat),(d∈ds∨Off d F)→Off d (F2 ds F)
 |[],F,d,h=>by
  rcases h with h|h
  · cases h
  · exact h
 |e::ds,F,d,h=>by
  refine LR ds (B4 e F) d ?_
  rcases h with h|h
  · cases h with
    |head=>exact .inr (M0 _ F)
    |tail _ h=>exact .inl h
  · exact .inr (h.B4 e)
theorem LS:∀(ds:List Nat) (F:Fm) (d:Nat),d ∉ ds→F2 ds (put d (.lp d 0) F)=put d (.lp d 0) (F2 ds F)
 |[],F,d,_=>rfl
 |e::ds,F,d,h=>by
  simp only [BD,not_or] at h
  simp only [F2]
  rw [Gn h.1,LS ds _ d h.2]
def Fl:PT→List Nat×PT
 | .lay i t=>(i::(Fl t).1,(Fl t).2)
 |t=>([],t)
def SU (qs:List Q):List Nat→Option (List (Nat×Nat×List AV))
 |[]=>some []
 |i::l=>match qs[i]? with
  |some ⟨some d,.al z false,none⟩=>if AS z then (SU qs l).map ((i,d,z)::·) else none
  |_=>none
def JP (ops:Array Oper) (tab:Array Nat) (qs:List Q):List (Nat×Nat×List AV)→Array Bool→Bool
 |[],_=>true
 |(i,d,_)::r,listed=>(Region.ready .any ops listed).contains i&&Uf tab qs i d&& !(r.map (·.2.1)).contains d&&JP ops tab qs r (listed.setIfInBounds i true)
def L5:List Nat→Array Bool→Array Bool
 |[],a=>a
 |i::l,a=>L5 l (a.setIfInBounds i true)
def VG:List (Nat×Nat×List AV)→Fm→Fm
 |[],F=>F
 |(_,d,_)::r,F=>VG r (put d (.lp d 0) (B4 d F))
def VH:List (Nat×Nat×List AV)→Lm→Lm
 |[],L=>L
 |(_,d,z)::r,L=>VH r (Ba d z L)
theorem Mc {ops:Array Oper} {tab:Array Nat} (htab:∀j i,(tab.getD j 0).testBit i=true→Anc ops j i) {qs:List Q} {n:Nat}:∀(ls:List (Nat×Nat×List AV)) (listed:Array Bool) (F:Fm) (L:Lm) (σ:AF),
 (∀x∈ls,qs[x.1]?=some ⟨some x.2.1,.al x.2.2 false,none⟩∧AS x.2.2=true)→JP ops tab qs ls listed=true→De ops listed→listed.size=ops.size→
 JA P ops qs K n (L5 (ls.map (·.1)) listed) (VG ls F) (VH ls L) σ→JA P ops qs K (n+ls.length) listed (F2 (ls.map (·.2.1)) F) L σ
 |[],listed,F,L,σ,_,_,_,_,h=>h
 |(i,d,z)::r,listed,F,L,σ,hq,hok,hcl,hsz,h=>by
  simp only [JP,AJ,As,F4] at hok
  obtain ⟨⟨⟨hr,hlay⟩,hnd⟩,hrest⟩:=hok
  have hnd':d ∉ r.map (·.2.1):=fun hm=>by rw [← Bool.not_eq_true,As] at hnd;exact hnd hm
  obtain ⟨hi,hz⟩:=hq (i,d,z) (by simp)
  have ih:=Mc htab (n:=n) r (listed.setIfInBounds i true) (put d (.lp d 0) (B4 d F)) (Ba d z L) σ (fun x hx=>hq x (by simp [hx])) hrest (hcl.set hr) (by simpa using hsz) h
  rw [LS _ _ _ hnd'] at ih
  exact UP htab hi hz hlay (n+r.length) listed _ L σ hcl hsz hr (LR (r.map (·.2.1)) (B4 d F) d (.inr (M0 d F))) ih
theorem Hj {ops:Array Oper} {tab:Array Nat} {qs:List Q}:∀(ls:List (Nat×Nat×List AV)) (listed:Array Bool),JP ops tab qs ls listed=true→De ops listed→listed.size=ops.size→De ops (L5 (ls.map (·.1)) listed)∧(L5 (ls.map (·.1)) listed).size=ops.size
 |[],listed,_,hc,hs=>⟨hc,hs⟩
 |(i,d,z)::r,listed,hok,hcl,hsz=>by
  simp only [JP,AJ,As] at hok
  exact Hj r _ hok.2 (hcl.set hok.1.1.1) (by simpa using hsz)
def QA (ls:List (Nat×Nat×List AV)) (t:QT):QT:=ls.foldr (fun x acc=>.one ⟨some x.2.1,.al x.2.2 false,none⟩ acc) t
theorem OD:∀(ls:List (Nat×Nat×List AV)) (t:QT) (F:Fm) (L:Lm),XT P K false (QA ls t) F L σ→XT P K false t (VG ls F) (VH ls L) σ
 |[],t,F,L,h=>h
 |(i,d,z)::r,t,F,L,h=>by
  have h:XQ P ⟨some d,.al z false,none⟩ (XT P K false (QA r t)) F L σ:=h
  have h:HU z false (some d) (XT P K false (QA r t)) F L σ:=h
  exact OD r t _ _ h.2
def Kq (P:Program) (N:Nat) (esc:List Nat) (pf:List FuncId) (pt:PT) (ops:Array Oper):Option QT:=do
 let qs ← Eo P N esc ops (Da ops.size)
 let qs:=qs.map (toP pf)
 let tab:=JB ops.toList #[]
 let ls ← SU qs (Fl pt).1
 let l0:=Bp ops.size false
 if JP ops tab qs ls l0&&Ew ops tab qs (Fl pt).2 (L5 (ls.map (·.1)) l0) none&&decide ((Fl pt).2.depth+ls.length≤ops.size) then (Ip qs (Fl pt).2).map (QA ls) else none
theorem MX {qs:List Q}:∀(l:List Nat) (ls:List (Nat×Nat×List AV)),SU qs l=some ls→∀x∈ls,qs[x.1]?=some ⟨some x.2.1,.al x.2.2 false,none⟩∧AS x.2.2=true
 |[],ls,h,x,hx=>by simp only [SU,AD] at h;subst h;cases hx
 |i::l,ls,h,x,hx=>by
  simp only [SU] at h
  split at h
  · rename_i d z hq
    split at h
    · rename_i hz
      simp only [AB] at h
      obtain ⟨r,hr,rfl⟩:=h
      cases hx with
      |head=>exact ⟨hq,hz⟩
      |tail _ hx=>exact MX l r hr x hx
    · cases h
  · cases h
theorem MK {ops:Array Oper} {qs:List Q}:∀(n m:Nat) (listed:Array Bool) (F:Fm) (L:Lm) (σ:AF),n≤m→JA P ops qs K n listed F L σ→JA P ops qs K m listed F L σ
 |0,0,listed,F,L,σ,_,h=>h
 |0,m+1,listed,F,L,σ,_,h=>⟨fun _=>h.2,fun i hi=>by rw [h.1] at hi;cases hi⟩
 |n+1,0,listed,F,L,σ,hle,h=>by omega
 |n+1,m+1,listed,F,L,σ,hle,h=>⟨h.1,fun i hi=>by
  obtain ⟨q,hq,hx⟩:=h.2 i hi
  exact ⟨q,hq,Hl (fun F L σ h=>MK n m _ F L σ (by omega) h) hx⟩⟩
theorem Ak.WB (h:Ak base g lam Pr N F L σ a w0 w) {F':Fm} (hF:∀s,F' s=F s∨F' s= .undef):Ak base g lam Pr N F' L σ a w0 w:=by
 refine ⟨fun s=>?_,h.sz,h.df,h.loc,h.inj,h.npr,h.rel⟩
 rcases hF s with e|e
 · rw [e];exact h.tm s
 · rw [e];exact VR.undef
theorem Je {ops:Array Oper} {esc:List Nat} {pf:List FuncId} {pt:PT} {qt:QT} (hm:P.follows .mixedOrders=true) (hc:Kq P N esc pf pt ops=some qt) (hx:XT P K false qt F L σ)
 (h:Ak base g lam Pr N F L σ a w0 w) {id:Nat}:(Code.region id ops true).wp P (fun e a' w'=>e= .normal∧Bz base Pr N w0 g w K a' w') a w:=by
 simp only [Kq,AE,AA] at hc
 obtain ⟨qs0,hq0,ls,hls,hc⟩:=hc
 split at hc
 case isFalse=>cases hc
 rename_i hp
 simp only [AJ,decide_eq_true_eq] at hp
 simp only [AB] at hc
 obtain ⟨t,ht,rfl⟩:=hc
 have hcl:De ops (Bp ops.size false):=by
  intro j o ho hj
  have:(Bp ops.size false).getD j false=false:=by
   simp only [BF,Array.getElem?_replicate];split<;>rfl
  rw [this] at hj;cases hj
 obtain ⟨hcl2,hsz2⟩:=Hj ls _ hp.1.1 hcl (by simp)
 have hx2:=OD ls t F L hx
 have hany1:=(KX (P:=P) (K:=K) (fun j i=>J1) _ t ht).1 _ _ _ _ σ (AP _) hp.1.2 hcl2 hsz2 hx2
 have hany2:=Mc (P:=P) (K:=K) (tab:=JB ops.toList #[]) (fun j i=>J1) ls _ F L σ (MX _ ls hls) hp.1.1 hcl (by simp) hany1
 have hany:=MK _ ops.size _ _ _ _ hp.2 hany2
 refine wp_region_any hm ?_
 have hF:=h.WB (Jp (ls.map (·.2.1)) F)
 have hdrew:Ak base g lam Pr N (F2 (ls.map (·.2.1)) F) L σ a w0 { w with drawn:=w.drawn+1}:=
  hF.step (w':=w.drew) (Gh.le_refl g) (fun k b hb=>rfl) (hF.rel.grow (w':=w.drew) (AP _) (fun _ _ _=>rfl) ((Below.refl base w).drew) (fun b hb=>⟨(hF.rel.pr b hb).1,.inl hb⟩))
 exact II hq0 K _ _ base g lam Pr _ L σ a w0 _ hany hdrew (fun a' w' hA=>⟨rfl,Bz.trans (Gh.le_refl g) ⟨AP _,fun _ _=>rfl⟩ hA⟩)
def lin:QT→Option (List Q)
 | .done=>some []
 | .one q t=>(lin t).map (q::·)
 | .alt _ _ _=>none
theorem S1:∀(t:QT) (ops:List Q) (F:Fm) (L:Lm) (σ:AF),lin t=some ops→Ai P K ops F L σ→XT P K false t F L σ
 | .done,ops,F,L,σ,h,hx=>by simp only [lin,AD] at h;subst h;exact hx
 | .one q t,ops,F,L,σ,h,hx=>by
  simp only [lin,AB] at h
  obtain ⟨l,hl,rfl⟩:=h
  exact Hl (fun F L σ h=>S1 t l F L σ hl h) hx
 | .alt _ _ _,ops,F,L,σ,h,_=>by simp [lin] at h
end Go.Ab
