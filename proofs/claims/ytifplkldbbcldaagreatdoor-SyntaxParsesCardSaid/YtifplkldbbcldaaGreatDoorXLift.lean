/- From the given reading of arguments to abstract values, and from a contract over abstract values to the row. Conditions: the parameters are plain data. Typed data, taken apart. Shared rows become data; a rule for loops. Conditions: none. -/
import Derived.ProofKit
import Derived.Test.YtifplkldbbcldaaGreatDoorXAb11
set_option linter.unusedSimpArgs false
set_option linter.unusedVariables false
set_option maxRecDepth 4000
set_option maxHeartbeats 8000000
open Option renaming bind_eq_bind→AU,bind_eq_some_iff→AF,map_eq_some_iff→AM,map_some→Cf
open List renaming getElem?_append_left→BE,getElem?_append_right→BA,getElem?_eq_none→Jq,contains_iff_mem→B9,drop_drop→DC,take_append_drop→Gt,all_eq_true→A7,getElem_of_mem→Cp,eq_nil_of_length_eq_zero→An,getElem?_eq_getElem→Az,getElem?_eq_some_iff→A3,all_cons→CC,mem_of_getElem?→Aa,getElem?_take→CD,length_take→Bj,length_drop→Ah,getElem?_drop→BM
open Nat renaming eq_zero_or_pos→G7,zero_le→C3,le_refl→A4,add_mul→CM,mul_le_mul_right→Aj,zero_add→Bd
open Bool renaming and_eq_true→AR,false_eq_true→AL
open Array renaming length_toList→Co,getElem?_eq_some_iff→VW,getElem?_eq_getElem→MQ
open Go renaming undef→Cs
open Option.some renaming injEq→AQ
namespace Go.Ab
open Go.RowKit Go.ChangeShapes Go.WideShapes
inductive RDs (im:Nat→Nat→Option Value):List DV→List Value→Prop
 |nil:RDs im [] []
 |cons {x:DV} {v:Value} {xs:List DV} {vs:List Value} (h:RD im x v) (hs:RDs im xs vs):RDs im (x::xs) (v::vs)
theorem RDs.length {im:Nat→Nat→Option Value} {xs:List DV} {vs:List Value} (h:RDs im xs vs):vs.length=xs.length:=by
 induction h with
 |nil=>rfl
 |cons _ _ ih=>simp [ih]
theorem RDs.idx {im:Nat→Nat→Option Value} {xs:List DV} {vs:List Value} (h:RDs im xs vs):∀(i:Nat) (x:DV) (v:Value),xs[i]?=some x→vs[i]?=some v→RD im x v:=by
 induction h with
 |nil=>intro i x v hx;simp at hx
 |cons h _ ih=>
  intro i x v hx hv
  cases i with
  |zero=>simp at hx hv;subst hx;subst hv;exact h
  |succ i=>exact ih i x v (by simpa using hx) (by simpa using hv)
theorem RDs.append {im:Nat→Nat→Option Value} {xs ys:List DV} {vs us:List Value} (h:RDs im xs vs) (k:RDs im ys us):RDs im (xs++ys) (vs++us):=by
 induction h with
 |nil=>exact k
 |cons h _ ih=>exact .cons h ih
theorem RDs.vrs {g:Gh} {xs:List DV} {vs:List Value} (h:RDs g.im xs vs):VRs g (xs.map AV.d) vs:=by
 induction h with
 |nil=>exact .nil
 |cons h _ ih=>exact .cons (.d h) ih
mutual
inductive DT (P:Program):TypeId→List DV→Prop
 |bool {t:TypeId} {b:Bool} (h:P.underlying t=some .bool):DT P t [.bool b]
 |int {t:TypeId} {k:IntKind} {n:Int} (h:P.underlying t=some (.int k)) (hn:k.has n):DT P t [.int k n]
 |str {t:TypeId} {s:List UInt8} (h:P.underlying t=some .string) (hs:s.length≤maxLen):DT P t [.str s]
 |sl {t e:TypeId} {rows:List (List DV)} (h:P.underlying t=some (.slice e)) (hm:rows.length≤maxLen) (hr:∀r∈rows,DT P e r):DT P t [.sl rows]
 |struct {t:TypeId} {fs:Array Field} {ds:List DV} (h:P.underlying t=some (.struct fs)) (hf:DTs P fs.toList ds):DT P t ds
inductive DTs (P:Program):List Field→List DV→Prop
 |nil:DTs P [] []
 |cons {f:Field} {fs:List Field} {a b:List DV} (h:DT P f.type a) (hs:DTs P fs b):DTs P (f::fs) (a++b)
end
def LU (P:Program) (S:List TypeId):Nat→List Field→Nat→Bool
 |off,[],n=>off==n
 |off,f::fs,n=>f.offset==off&&S.contains f.type&&LU P S (off+P.cellsOf f.type) fs n
def aA (P:Program) (S:List TypeId) (t:TypeId):Bool:=
 match P.underlying t with
 |some .bool|some (.int _)|some .string=>true
 |some (.slice e)=>S.contains e&&decide (0 < P.cellsOf e)
 |some (.struct fs)=>LU P S 0 fs.toList (P.cellsOf t)
 |_=>false
theorem jF {α β:Type} {f:α→Option β}:∀ {l:List α} {r:List β},l.mapM f=some r→∀x∈l,∃y,f x=some y
 |[],_,_,x,hx=>by cases hx
 |a::l,r,h,x,hx=>by
  simp only [List.mapM_cons,AU,AF] at h
  obtain ⟨y,hy,ys,hys,_⟩:=h
  cases hx with
  |head=>exact ⟨y,hy⟩
  |tail _ hx=>exact jF hys x hx
theorem Xj {α:Type} (p:Nat→α→Prop):∀n,(∀i,i < n→∃r,p i r)→∃rows:List α,rows.length=n∧∀i r,rows[i]?=some r→p i r
 |0,_=>⟨[],rfl,by simp⟩
 |n+1,h=>by
  obtain ⟨rows,hl,hr⟩:=Xj p n (fun i hi=>h i (by omega))
  obtain ⟨r,hp⟩:=h n (by omega)
  refine ⟨rows++[r],by simp [hl],fun i r' hi=>?_⟩
  by_cases hlt:i < rows.length
  · rw [BE hlt] at hi;exact hr i r' hi
  · rw [BA (by omega)] at hi
    have:i - rows.length=0:=by
     rcases G7 (i - rows.length) with h|h
     · exact h
     · rw [Jq (by simp;omega)] at hi;cases hi
    rw [this] at hi
    simp at hi;subst hi
    have:i=n:=by omega
    subst this;exact hp
def imW (w:World):Nat→Nat→Option Value:=fun b o=>w.cell? ⟨b,o,none⟩
theorem Io {w:World} {base:Nat} {a:Addr} {n:Nat} {cs:List Value} (h:w.cells? base a n=some cs):cs.length=n∧∀j,j < n→w.cell? (a.add j)=cs[j]?:=by
 unfold World.cells? at h
 split at h
 · have:∀(l:List Nat) (cs:List Value),l.mapM (fun i=>w.cell? (a.add i))=some cs→cs.length=l.length∧∀(j i:Nat),l[j]?=some i→w.cell? (a.add i)=cs[j]?:=by
    intro l
    induction l with
    |nil=>intro cs h;simp at h;subst h;simp
    |cons x l ih=>
     intro cs h
     simp only [List.mapM_cons,AU,AF] at h
     obtain ⟨y,hy,ys,hys,he⟩:=h
     cases he
     obtain ⟨h1,h2⟩:=ih ys hys
     refine ⟨by simp [h1],fun j i hj=>?_⟩
     cases j with
     |zero=>simp at hj;subst hj;simpa using hy
     |succ j=>simpa using h2 j i (by simpa using hj)
   obtain ⟨h1,h2⟩:=this _ _ h
   exact ⟨by simpa using h1,fun j hj=>h2 j j (by simp [hj])⟩
 · cases h
section
variable {H:Type} {enc:TypeId×Value→H} {P:Program} {w:World} {base:Nat} {spare:Nat→Bool} {held:Bool}
theorem Xu {S:List TypeId} {fuel:Nat} {cs:List Value}
 (ih:∀(t:TypeId) (cs:List Value) (x:DataW H×List MemPlace),t∈S→DataW.trod enc P w base spare held fuel t cs=some x→∃ds,DT P t ds∧RDs (imW w) ds cs):
 ∀(fs:List Field) (off:Nat) (n:Nat) (xs:List (DataW H×List MemPlace)),LU P S off fs n=true→cs.length=n→off≤n→
  fs.mapM (fun f=>DataW.trod enc P w base spare held fuel f.type ((cs.drop f.offset).take (P.cellsOf f.type)))=some xs→∃ds,DTs P fs ds∧RDs (imW w) ds (cs.drop off)
 |[],off,n,xs,hk,hl,_,_=>by
  simp only [LU,beq_iff_eq] at hk
  refine ⟨[],.nil,?_⟩
  rw [List.drop_of_length_le (by omega)]
  exact .nil
 |f::fs,off,n,xs,hk,hl,hle,h=>by
  simp only [LU,AR,beq_iff_eq,B9] at hk
  obtain ⟨⟨h1,h2⟩,h3⟩:=hk
  simp only [List.mapM_cons,AU,AF] at h
  obtain ⟨y,hy,ys,hys,_⟩:=h
  obtain ⟨a,ha,har⟩:=ih _ _ _ h2 hy
  have hoff:∀(fs:List Field) (off n:Nat),LU P S off fs n=true→off≤n:=by
   intro fs
   induction fs with
   |nil=>intro off n h;simp only [LU,beq_iff_eq] at h;omega
   |cons f fs ih=>intro off n h;simp only [LU,AR] at h;have:=ih _ _ h.2;omega
  obtain ⟨b,hb,hbr⟩:=Xu ih fs (off+P.cellsOf f.type) n ys h3 hl (hoff _ _ _ h3) hys
  refine ⟨a++b,.cons ha hb,?_⟩
  have:=har.append hbr
  rw [h1] at this
  rw [← DC,Gt] at this
  exact this
theorem pF {S:List TypeId} (hS:S.all (aA P S)=true):∀(fuel:Nat) (t:TypeId) (cs:List Value) (x:DataW H×List MemPlace),t∈S→DataW.trod enc P w base spare held fuel t cs=some x→∃ds,DT P t ds∧RDs (imW w) ds cs
 |0,t,cs,x,_,h=>by simp [DataW.trod] at h
 |fuel+1,t,cs,x,ht,h=>by
  have ih:=pF hS fuel
  have hp:aA P S t=true:=A7.1 hS t ht
  unfold aA at hp
  unfold DataW.trod at h
  cases hu:P.underlying t with
  |none=>rw [hu] at hp;cases hp
  |some u=>
   rw [hu] at hp h
   cases u<;>simp only [AL] at hp
   case bool=>
    split at h<;>(try (cases h;done))<;>rename_i h1<;>cases h1
    exact ⟨[.bool _],.bool hu,.cons .bool .nil⟩
   case int k=>
    split at h<;>(try (cases h;done))<;>rename_i h1<;>cases h1
    split at h
    · rename_i hk
      obtain ⟨rfl,hk⟩:=hk
      simp only [Lit.wf,AR,decide_eq_true_eq] at hk
      exact ⟨[.int _ _],.int hu (by simpa [IntKind.has] using hk),.cons (.int (by simpa [IntKind.has] using hk)) .nil⟩
    · cases h
   case string=>
    split at h<;>(try (cases h;done))<;>rename_i h1<;>cases h1
    split at h
    · rename_i s hk
      have hk':s.data.toList.length≤maxLen:=by rw [Co];exact hk
      refine ⟨[.str s.data.toList],.str hu hk',.cons ?_ .nil⟩
      have:(⟨s.data.toList.toArray⟩:ByteArray)=s:=by cases s;simp
      have h2:=RD.str (im:=imW w) (s:=s.data.toList) hk'
      rwa [this] at h2
    · cases h
   case slice e=>
    simp only [AR,B9,decide_eq_true_eq] at hp
    obtain ⟨he,hpos⟩:=hp
    split at h<;>(try (cases h;done))<;>rename_i h1<;>cases h1
    · exact ⟨[.sl []],.sl hu (by simp) (by simp),.cons (.nil (C3 _) (fun _=>rfl)) .nil⟩
    · rename_i a len cap
      simp only at h
      split at h
      · rename_i hc
        obtain ⟨_,hlc,hcm⟩:=hc
        simp only [AF] at h
        obtain ⟨elems,hel,_⟩:=h
        have hall:=jF hel
        have:∀i,i < len→∃r,DT P e r∧∃cs,w.cells? base (a.add (i * P.cellsOf e)) (P.cellsOf e)=some cs∧RDs (imW w) r cs:=by
         intro i hi
         obtain ⟨y,hy⟩:=hall i (by simp [hi])
         simp only [AF] at hy
         obtain ⟨cs,hcs,hy⟩:=hy
         obtain ⟨r,h1,h2⟩:=ih _ _ _ he hy
         exact ⟨r,h1,cs,hcs,h2⟩
        obtain ⟨rows,hl,hr⟩:=Xj _ len this
        refine ⟨[.sl rows],.sl hu (by omega) (fun r hr'=>?_),.cons ?_ .nil⟩
        · obtain ⟨i,hi,rfl⟩:=Cp hr'
          exact (hr i _ (by simp [hi])).1
        · rcases G7 len with h0|h0
          · subst h0
            have:rows=[]:=An hl
            subst this
            exact .nil hcm (fun h=>by cases h)
          · obtain ⟨b,off,spot⟩:=a
            have hspot:spot=none:=by
             obtain ⟨_,_,cs,hcs,_⟩:=this 0 h0
             have h2:=(Io hcs).2 0 hpos
             have h3:0 < cs.length:=by rw [(Io hcs).1];exact hpos
             rw [Az h3] at h2
             simpa [Addr.add] using World.cell?_spot h2
            subst hspot
            subst hl
            refine .sl (size:=P.cellsOf e) (f:=fun i j=>((imW w) b (off+i * P.cellsOf e+j)).getD Cs) hlc hcm (fun r hr'=>?_) (fun i j hi hj=>?_) (fun i r j x hi hj=>?_)
            · obtain ⟨i,hi,rfl⟩:=Cp hr'
              obtain ⟨_,cs,hcs,hrd⟩:=hr i rows[i] (Az hi)
              exact hrd.length.symm.trans (Io hcs).1
            · obtain ⟨r,hri⟩:∃r,rows[i]?=some r:=⟨rows[i],by simp [hi]⟩
              obtain ⟨_,cs,hcs,hrd⟩:=hr i r hri
              have h2:=(Io hcs).2 j hj
              have h3:j < cs.length:=by rw [(Io hcs).1];exact hj
              rw [Az h3] at h2
              have h4:imW w b (off+i * P.cellsOf e+j)=some cs[j]:=by rw [Addr.add_lit,Addr.add_lit] at h2;exact h2
              rw [h4];rfl
            · obtain ⟨_,cs,hcs,hrd⟩:=hr i r hi
              have hj':j < r.length:=(A3.1 hj).1
              have hjn:j < P.cellsOf e:=by have:=hrd.length;rw [(Io hcs).1] at this;omega
              have h2:=(Io hcs).2 j hjn
              have h3:j < cs.length:=by rw [(Io hcs).1];exact hjn
              rw [Az h3] at h2
              have h4:imW w b (off+i * P.cellsOf e+j)=some cs[j]:=by rw [Addr.add_lit,Addr.add_lit] at h2;exact h2
              rw [h4]
              exact hrd.idx j x cs[j] hj (by simp [h3])
      · cases h
   case struct fs=>
    simp only at h
    split at h
    · rename_i hc
      simp only [AM] at h
      obtain ⟨xs,hxs,_⟩:=h
      obtain ⟨ds,h1,h2⟩:=Xu ih fs.toList 0 _ xs hp hc (C3 _) hxs
      exact ⟨ds,.struct hu h1,by simpa using h2⟩
    · cases h
end
def qJ (P:Program) (t:TypeId) (ds:List DV):AV:=
 match P.underlying t with
 |some (.struct _)=>.agg (ds.map AV.d)
 |_=>match ds with|[x]=>.d x|_=>.undef
theorem iB {P:Program} {t:TypeId} {fs:Array Field} (h:P.underlying t=some (.struct fs)) (ds:List DV):qJ P t ds= .agg (ds.map AV.d):=by
 unfold qJ;rw [h]
theorem iA {P:Program} {t:TypeId} {u:TypeDesc} (h:P.underlying t=some u) (hn:∀fs,u≠.struct fs) (x:DV):qJ P t [x]= .d x:=by
 unfold qJ;rw [h]
 cases u<;>first|rfl|exact absurd rfl (hn _)
inductive ZF (P:Program):List TypeId→List AV→Prop
 |nil:ZF P [] []
 |cons {t:TypeId} {ts:List TypeId} {ds:List DV} {avs:List AV} (h:DT P t ds) (hs:ZF P ts avs):ZF P (t::ts) (qJ P t ds::avs)
section
variable {H:Type} {enc:TypeId×Value→H} {P:Program} {w:World} {held:Bool}
theorem eK {S:List TypeId} (hS:S.all (aA P S)=true) {g:Gh} (hg:g.im=imW w) {b:Nat} {spare:Nat→Bool} {base:Nat}:∀(ts:List TypeId) (vs:List Value) (ds:List (DataW H)) (ps:List MemPlace),
 (∀t∈ts,t∈S)→(∀(j:Nat) t v,ts[j]?=some t→vs[j]?=some v→Value.okWide P w .any base t v)→DataW.TrodAll enc P w b spare held ts vs ds ps→∃avs,ZF P ts avs∧VRs g avs vs
 |[],[],[],_,_,_,_=>⟨[],.nil,.nil⟩
 |t::ts,v::vs,d::ds,ps,hin,hok,h=>by
  obtain ⟨p,q,⟨fuel,hd⟩,hrest,_⟩:=h
  obtain ⟨avs,h1,h2⟩:=eK hS hg ts vs ds q (fun t ht=>hin t (by simp [ht])) (fun j t v ht hv=>hok (j+1) t v (by simpa using ht) (by simpa using hv)) hrest
  obtain ⟨dv,h3,h4⟩:=pF hS fuel t _ _ (hin t (by simp)) hd
  refine ⟨qJ P t dv::avs,.cons h3 h1,.cons ?_ h2⟩
  have ho:=hok 0 t v rfl rfl
  rw [← hg] at h4
  cases hu:P.underlying t with
  |none=>cases h3<;>simp_all
  |some u=>
   by_cases hs:∃fs,u= .struct fs
   · obtain ⟨fs,rfl⟩:=hs
     rw [iB hu]
     unfold Value.okWide at ho
     rw [hu] at ho
     simp only at ho
     obtain ⟨cs,rfl,_,_⟩:=ho
     have h5:=h4.vrs
     simp only [Value.cells] at h5
     have:=VR.agg (g:=g) (cs:=dv.map AV.d) (vs:=cs.toList) (by simpa using h5.length) (by simp [AV.CB]) (fun i c v hc hv=>h5.idx i c v hc hv)
     simpa using this
   · have hns:∀fs,u≠.struct fs:=fun fs e=>hs ⟨fs,e⟩
     have hone:∃x,dv=[x]:=by
      cases h3 with
      |struct h _=>rw [hu] at h;cases h;exact absurd rfl (hns _)
      |_=>exact ⟨_,rfl⟩
     obtain ⟨x,rfl⟩:=hone
     rw [iA hu hns]
     generalize hcv:v.cells.toList=cv at h4
     cases h4 with
     |cons hx hn=>
      cases hn
      rename_i v'
      have:v=v':=by
       unfold Value.okWide at ho
       rw [hu] at ho
       cases v<;>try (simpa [Value.cells] using hcv)
       exfalso
       cases h3 with
       |bool h=>rw [hu] at h;cases h;simp [Cell.okWide,hu,Cell.ok] at ho
       |int h=>rw [hu] at h;cases h;simp [Cell.okWide,hu,Cell.ok] at ho
       |str h=>rw [hu] at h;cases h;simp [Cell.okWide,hu,Cell.ok] at ho
       |sl h=>rw [hu] at h;cases h;simp [Cell.okWide,hu,Cell.ok] at ho
       |struct h=>rw [hu] at h;cases h;exact absurd rfl (hns _)
      subst this
      exact .d hx
 |[],_::_,_,_,_,_,h=>by cases h
 |[],[],_::_,_,_,_,h=>by cases h
 |_::_,[],_,_,_,_,h=>by cases h
 |_::_,_::_,[],_,_,_,h=>by cases h
def nT (w:World):Gh:=⟨imW w,fun _=>none,fun _=>none,fun _=>none⟩
def MO (gt:Nat→Option (Array Value)):AK:=⟨fun _=>none,fun _=>false,gt,fun _=>none⟩
theorem sY (w:World) {gt:Nat→Option (Array Value)} (hgt:∀b vs,gt b=some vs→∃ty fr,w.heap[b]?=some (.cells vs ty fr)):Rel w.heap.size (nT w) (fun _=>False) (MO gt) w w:=
 ⟨fun _ _ _ h=>h,fun _ _ h=>by simp [MO] at h,fun _ _ _ h=>by simp [MO] at h,fun _ h=>by simp [MO] at h,fun _ h=>h.elim,Below.refl _ _,A4 _,⟨0,fun _ _=>⟨rfl,rfl,rfl⟩⟩,⟨fun b vs h=>by
   obtain ⟨ty,fr,hb⟩:=hgt b vs h
   exact ⟨(VW.1 hb).1,ty,fr,hb⟩,fun _ _ h=>by simp [MO] at h⟩⟩
theorem Uj (hl:laidOutB P=true) {W W':World} (hb:Below W.heap.size W W'):∀(ts:List TypeId) (vs:List Value) (ds:List (DataW H)) (ps:List MemPlace),(∀t∈ts,P.readableRec t=true∧t < P.types.size)→
 (∀x∈ps,x.block < W.heap.size)→DataW.TrodAll enc P W 0 (fun _=>true) true ts vs ds ps→DataW.TrodAll enc P W' 0 (fun b=>decide (b < W.heap.size)) true ts vs ds ps
 |[],[],[],_,_,_,h=>h
 |t::ts,v::vs,d::ds,ps,hr,hlt,h=>by
  obtain ⟨p,q,h1,h2,rfl⟩:=h
  exact ⟨p,q,Below.trod hl (hr t (by simp)).1 (hr t (by simp)).2 h1 hb (fun x hx=>hlt x (by simp [hx])),Uj hl hb ts vs ds q (fun t ht=>hr t (by simp [ht])) (fun x hx=>hlt x (by simp [hx])) h2,rfl⟩
 |[],_::_,_,_,_,_,h=>by cases h
 |[],[],_::_,_,_,_,h=>by cases h
 |_::_,[],_,_,_,_,h=>by cases h
 |_::_,_::_,[],_,_,_,h=>by cases h
theorem dE {fn:Func} {s:ChangeSpec} {f:FuncId} {gt:Nat→Option (Array Value)} (S:List TypeId) (hl:laidOutB P=true) (hS:S.all (aA P S)=true) (hin:∀t∈fn.params.toList,t∈S)
 (hread:∀t∈fn.params.toList,P.readableRec t=true∧t < P.types.size) {tb:TypeId} (hres:fn.resultTypes=#[tb]) (htb:P.underlying tb=some .bool) (hvars:s.vars=[])
 (hs:∀ds:List (DataW H),ds.length=fn.params.size→s.fn H ds= { results:=[.lit (.bool true)],args:=ds})
 (main:∀avs:List AV,ZF P fn.params.toList avs→AP P f avs (MO gt) (fun v _=>v= .d (.bool true)))
 (W:World) (hgt:∀b vs,gt b=some vs→∃ty fr,W.heap[b]?=some (.cells vs ty fr)) (base:Nat) (args:Array Value) (ds gs:List (DataW H)) (before:List MemPlace)
 (hval:∀(j:Nat) t v,fn.params[j]?=some t→args[j]?=some v→Value.okWide P W .any base t v)
 (hW:DataW.Whole enc P fn.params.toList s.vars false W args.toList ds gs before):
 Calls P f args W fun e W'=>∃v,e= .returned v∧s.post enc P fn false true false false W args v W':=by
 have hW':=hW
 obtain ⟨p,q,hA,hV,rfl,hfz,hnd⟩:=hW
 rw [hvars] at hV
 obtain ⟨rfl,rfl⟩:=trodVars_none hV
 obtain ⟨avs,h1,h2⟩:=eK hS (g:=nT W) rfl fn.params.toList args.toList ds p hin (fun j t v ht hv=>hval j t v (by simpa using ht) (by simpa using hv)) hA
 have hc:=main avs h1 W.heap.size (nT W) (fun _=>False) W W args.toList (sY W hgt) h2
 simp only [Array.toArray_toList] at hc
 refine hc.mono fun e W' ⟨v,av,g',σ',he,hv,hrel,_,_,hav⟩=>?_
 subst hav
 have hvt:v= .bool true:=by cases hv with|d h=>cases h;rfl
 subst hvt
 have hlen:ds.length=fn.params.size:=by
  have:∀(ts:List TypeId) (vs:List Value) (ds:List (DataW H)) (ps:List MemPlace),DataW.TrodAll enc P W 0 (fun _=>true) true ts vs ds ps→ds.length=ts.length:=by
   intro ts
   induction ts with
   |nil=>intro vs ds ps h;cases vs<;>cases ds<;>first|rfl|(cases h;done)
   |cons t ts ih=>
    intro vs ds ps h
    cases vs<;>cases ds<;>try (cases h;done)
    obtain ⟨_,_,_,h2,_⟩:=h
    simpa using ih _ _ _ h2
  simpa using this _ _ _ _ hA
 have hlt:∀x∈p,x.block < W.heap.size:=fun x hx=>by simpa using hW'.lt x (by simp [hx])
 have hfn:=hs (ds++[]) (by simpa using hlen)
 refine ⟨_,he,ds,[],p++[],[],p,[],hW',?_,?_,?_,hrel.bel.frame _,fun h=>by cases h⟩
 · rw [hfn,hres]
   exact trodAll_mk1 ⟨1,by simp [DataW.trod,htb,Value.cells]⟩
 · rw [hfn]
   simpa using Uj hl hrel.bel fn.params.toList args.toList ds p hread hlt hA
 · rw [hfn,hvars]
   rfl
end
end Go.Ab
namespace Go.Ab
variable {P:Program} {t e:TypeId} {ds:List DV}
theorem DT.y9 (h:DT P t ds) (hu:P.underlying t=some .string):∃s,ds=[.str s]∧s.length≤maxLen:=by
 cases h with
 |str h hs=>exact ⟨_,rfl,hs⟩
 |int h=>rw [hu] at h;cases h
 |bool h=>rw [hu] at h;cases h
 |sl h=>rw [hu] at h;cases h
 |struct h=>rw [hu] at h;cases h
end Go.Ab
namespace Go.Ab
open Go.RowKit
variable {P:Program} {base N:Nat} {g g':Gh} {Pr:Nat→Prop} {σ σ':AK} {w0 w w':World} {lam:Nat→Option Nat} {F F':Fm} {L L':Lm} {a:Act}
theorem VR.data {c:AV} {v:Value} {x:DV} (h:VR g c v) (hd:c.dv=some x):RD g.im x v:=by
 cases h<;>simp only [AV.dv,AQ] at hd<;>try (cases hd;done)
 · subst hd;assumption
 · subst hd;exact .nil (C3 _) (fun _=>rfl)
 · subst hd;assumption
 · subst hd;assumption
 · subst hd;exact .FN
mutual
def frz (i n:Nat) (rows:List (List DV)):AV→AV
 | .ms j m s e=>if j=i∧m=n then .d (.sl rows) else .ms j m s e
 | .agg cs=>.agg (Rh i n rows cs)
 | .tup cs=>.tup (Rh i n rows cs)
 |v=>v
def Rh (i n:Nat) (rows:List (List DV)):List AV→List AV
 |[]=>[]
 |v::l=>frz i n rows v::Rh i n rows l
end
theorem S8 (i n:Nat) (rows:List (List DV)):∀l:List AV,(Rh i n rows l).length=l.length
 |[]=>rfl
 |v::l=>by simp [Rh,S8 i n rows l]
theorem Vk (i n:Nat) (rows:List (List DV)):∀(l:List AV) (k:Nat),(Rh i n rows l)[k]?=(l[k]?).map (frz i n rows)
 |[],k=>by simp [Rh]
 |v::l,0=>by simp [Rh]
 |v::l,k+1=>by simp [Rh,Vk i n rows l k]
theorem iO {i n:Nat} {rows:List (List DV)} {v:AV} (h:v.CB=true):(frz i n rows v).CB=true:=by
 cases v<;>first|exact h|(simp only [frz];split<;>rfl)|(simp [AV.CB] at h)
theorem fR {i n:Nat} {rows:List (List DV)}:∀ {l:List AV},Ag l=true→Ag (Rh i n rows l)=true
 |[],_=>rfl
 |v::l,h=>by
  simp only [Ag,CC,AR] at h
  simp only [Rh,Ag,CC,AR]
  exact ⟨iO h.1,fR (l:=l) h.2⟩
theorem VR.frz {i n b:Nat} {rows:List (List DV)} (hg:g.le g') (hm:g.mu i=some b) (hrow:∀cap,n≤cap→cap≤maxLen→RD g'.im (.sl rows) (.slice (some ⟨b,0,none⟩) n cap)) {x:AV} {v:Value} (h:VR g x v):VR g' (frz i n rows x) v:=by
 induction h with
 |d h=>simpa [Ab.frz] using VR.d (h.mono hg.im)
 |AO=>simpa [Ab.frz] using VR.AO
 |own h ht hs=>simpa [Ab.frz] using VR.own (h.mono hg.im) (hg.tau _ _ ht) hs
 |clip h=>simpa [Ab.frz] using VR.clip (h.mono hg.im)
 |mv h hr hn hm ho=>simpa [Ab.frz] using VR.mv (hg.mu _ _ h) (hg.rm _ _ hr) hn hm ho
 |bp ht him=>simpa [Ab.frz] using VR.bp (hg.tau _ _ ht) (fun j x hx=>hg.im _ _ _ (him j x hx))
 |@agg cs vs hl hc _ ih=>
  refine .agg (by rw [S8];exact hl) (fun c hcm=>?_) (fun k c v hci hvi=>?_)
  · obtain ⟨k,hk,rfl⟩:=Cp hcm
    have:=Vk i n rows cs k
    rw [Az hk] at this
    cases hcs:cs[k]? with
    |none=>rw [hcs] at this;cases this
    |some c'=>rw [hcs] at this;simp only [Cf,AQ] at this;rw [this];exact iO (hc c' (Aa hcs))
  · rw [Vk] at hci
    cases hcs:cs[k]? with
    |none=>rw [hcs] at hci;cases hci
    |some c'=>rw [hcs] at hci;simp only [Cf,AQ] at hci;rw [← hci];exact ih k c' v hcs hvi
 |gp h=>simpa [Ab.frz] using VR.gp (hg.mu _ _ h)
 |ep hi hr=>simpa [Ab.frz] using VR.ep (fun j hj=>hg.im _ _ _ (hi j hj)) (fun j x hx=>(hr j x hx).mono hg.im)
 |FN=>simpa [Ab.frz] using VR.FN
 |PY=>simpa [Ab.frz] using VR.PY
 |@ms j m s e b' cap h hr hn hmx=>
  simp only [Ab.frz]
  split
  · rename_i e
    obtain ⟨rfl,rfl⟩:=e
    rw [hm] at h;cases h
    exact .d (hrow cap hn hmx)
  · exact .ms (hg.mu _ _ h) (hg.rm _ _ hr) hn hmx
 |fn hl hl' h h' _ _=>simpa [Ab.frz] using VR.mono hg (VR.fn hl hl' h h')
 |@tup cs vs hl _ ih=>
  refine .tup (by rw [S8];exact hl) (fun k c v hci hvi=>?_)
  rw [Vk] at hci
  cases hcs:cs[k]? with
  |none=>rw [hcs] at hci;cases hci
  |some c'=>rw [hcs] at hci;simp only [Cf,AQ] at hci;rw [← hci];exact ih k c' v hcs hvi
 |undef=>simpa [Ab.frz] using VR.undef
theorem VRs.Rh {i n b:Nat} {rows:List (List DV)} (hg:g.le g') (hm:g.mu i=some b) (hrow:∀cap,n≤cap→cap≤maxLen→RD g'.im (.sl rows) (.slice (some ⟨b,0,none⟩) n cap)) {xs:List AV} {vs:List Value} (h:VRs g xs vs):VRs g' (Rh i n rows xs) vs:=by
 induction h with
 |nil=>exact .nil
 |cons h _ ih=>exact .cons (h.frz hg hm hrow) ih
theorem oQ:∀ {cs:List AV} {ds:List DV},dvs cs=some ds→ds.length=cs.length∧∀(k:Nat) (c:AV) (x:DV),cs[k]?=some c→ds[k]?=some x→c.dv=some x
 |[],ds,h=>by simp only [dvs,AQ] at h;subst h;simp
 |c::cs,ds,h=>by
  simp only [dvs,AU,AF] at h
  obtain ⟨x,hx,ys,hys,he⟩:=h
  cases he
  obtain ⟨h1,h2⟩:=oQ hys
  refine ⟨by simp [h1],fun k c' x' hc hx'=>?_⟩
  cases k with
  |zero=>simp at hc hx';subst hc;subst hx';exact hx
  |succ k=>exact h2 k c' x' (by simpa using hc) (by simpa using hx')
theorem K5 (size:Nat):∀(n:Nat) (l:List DV),(chunk size n l).length=n
 |0,_=>rfl
 |n+1,l=>by simp [chunk,K5 size n]
theorem Wh (size:Nat):∀(n:Nat) (l:List DV) (i:Nat) (r:List DV),(chunk size n l)[i]?=some r→r=(l.drop (i * size)).take size
 |0,_,i,r,h=>by simp [chunk] at h
 |n+1,l,0,r,h=>by simp [chunk] at h;simp [h]
 |n+1,l,i+1,r,h=>by
  have:=Wh size n (l.drop size) i r (by simpa [chunk] using h)
  rw [this,DC]
  congr 2
  rw [CM];omega
theorem Rel.freeze (h:Rel base g Pr σ w0 w) {i n size:Nat} {cs:List AV} {ds:List DV} (hi:σ.blk i=some cs) (hd:dvs cs=some ds) (hl:cs.length=n * size) (hn:n≤maxLen) (hσ:∀j cs',σ'.blk j=some cs'→j≠i∧∃cs0,σ.blk j=some cs0∧(cs'=cs0∨cs'=Rh i n (chunk size n ds) cs0))
 (ht:∀t,σ'.tok t=true→σ.tok t=true) (hgt:σ'.gt=σ.gt) (hbt:σ'.bt=σ.bt):
 ∃g' b,g.le g'∧g.mu i=some b∧(∀cap,n≤cap→cap≤maxLen→RD g'.im (.sl (chunk size n ds)) (.slice (some ⟨b,0,none⟩) n cap))∧Rel base g' Pr σ' w0 w:=by
 obtain ⟨b,hb,ho⟩:=h.shr i cs hi
 obtain ⟨vs0,ty,hv,hl0,hrt0,hr0⟩:=ho.row
 obtain ⟨vs,hvs⟩:∃vs:Array Value,vs=(vs0.toList.take cs.length).toArray:=⟨_,rfl⟩
 have hr:VRs g cs vs.toList:=by rw [hvs];simpa using hr0
 have hvl:vs.size=cs.length:=by simpa using hr.length
 let g2:Gh:= { g with im:=fun b' o=>if b'=b then vs[o]? else g.im b' o}
 have hle:g.le g2:=⟨fun b' o v hv'=>by
  have:b'≠b:=fun e=>by subst e;rw [ho.im o] at hv';cases hv'
  show (if b'=b then vs[o]? else g.im b' o)=some v
  rw [if_neg this];exact hv',fun _ _ h=>h,fun _ _ h=>h,fun _ _ h=>h⟩
 have hcell:∀o v,vs[o]?=some v→w.cell? ⟨b,o,none⟩=some v:=fun o v hov=>by
  have hov0:vs0[o]?=some v:=by
   rw [hvs] at hov
   simp only [List.getElem?_toArray,CD] at hov
   split at hov
   · simpa using hov
   · cases hov
  unfold World.cell?
  simp [hv,hov0]
 obtain ⟨hdl,hdg⟩:=oQ hd
 have hrow:∀cap,n≤cap→cap≤maxLen→RD g2.im (.sl (chunk size n ds)) (.slice (some ⟨b,0,none⟩) n cap):=by
  intro cap hcap hcm
  rcases G7 n with h0|h0
  · subst h0;exact .nil hcm (fun h=>by cases h)
  · have:=RD.sl (im:=g2.im) (rows:=chunk size n ds) (b:=b) (off:=0) (cap:=cap) (size:=size) (f:=fun i j=>(vs[i * size+j]?).getD Cs) (by rw [K5];exact hcap) hcm
     (fun r hr'=>?_) (fun k j hk hj=>?_) (fun k r j x hk hj=>?_)
    · rw [K5] at this;exact this
    · obtain ⟨k,hk,rfl⟩:=Cp hr'
      rw [K5] at hk
      have:=Wh size n ds k _ (by rw [Az (by rw [K5];exact hk)])
      rw [this,Bj,Ah]
      have h1:(k+1) * size≤n * size:=Aj _ hk
      rw [CM] at h1
      omega
    · rw [K5] at hk
      have h1:(k+1) * size≤n * size:=Aj _ hk
      rw [CM] at h1
      have hlt:k * size+j < vs.size:=by omega
      show (if b=b then vs[0+k * size+j]? else _)=_
      rw [if_pos rfl,Bd,MQ hlt];rfl
    · have hkn:k < n:=by have:=(A3.1 hk).1;rw [K5] at this;exact this
      have:=Wh size n ds k r hk
      subst this
      rw [CD] at hj
      split at hj
      · rename_i hjs
        rw [BM] at hj
        have hlt:k * size+j < cs.length:=by rw [← hdl];exact (A3.1 hj).1
        have hc:=hdg (k * size+j) cs[k * size+j] x (by simp [hlt]) hj
        have hvv:vs.toList[k * size+j]?=some (vs[k * size+j]'(by omega)):=by simp
        have hvr:=hr.idx (k * size+j) cs[k * size+j] _ (Az hlt) hvv
        have:=(hvr.data hc).mono hle.im
        rw [MQ (by omega)];exact this
      · cases hj
 refine ⟨g2,b,hle,hb,hrow,?_⟩
 have hn':∀j,σ'.blk j≠none→σ.blk j≠none∧j≠i:=fun j hj=>by
  cases hc:σ'.blk j with
  |none=>exact absurd hc hj
  |some c=>obtain ⟨h1,c0,h2,_⟩:=hσ j c hc;exact ⟨by rw [h2];simp,h1⟩
 have hbi:σ.blk i≠none:=by rw [hi];simp
 refine ⟨fun b' o v hv'=>?_,fun j cs' hj=>?_,fun j k b' hj hk=>h.inj j k b' (hn' j hj).1 (hn' k hk).1,fun t htk=>?_,fun b' hp=>?_,h.bel,h.bs,h.fin,h.st.mono hle hgt hbt⟩
 · by_cases e:b'=b
   · have hv2:(if b'=b then vs[o]? else g.im b' o)=some v:=hv'
     rw [if_pos e] at hv2
     rw [e];exact hcell o v hv2
   · have hv2:(if b'=b then vs[o]? else g.im b' o)=some v:=hv'
     rw [if_neg e] at hv2
     exact h.im b' o v hv2
 · obtain ⟨hji,cs0,h0,hcs⟩:=hσ j cs' hj
   obtain ⟨b',hb',ho'⟩:=h.shr j cs0 h0
   obtain ⟨vs',ty',hv',hl',ht',hr'⟩:=ho'.row
   have hne:b'≠b:=fun e=>hji (h.inj j i b (by rw [h0];simp) hbi (e ▸ hb') hb)
   refine ⟨b',hb',?_,⟨vs',ty',hv',?_,ht',?_⟩,ho'.low,fun o=>?_,ho'.pr⟩
   · rcases hcs with rfl|rfl
     · exact ho'.ok
     · exact fR ho'.ok
   · rcases hcs with rfl|rfl
     · exact hl'
     · rw [S8];exact hl'
   · rcases hcs with rfl|rfl
     · exact hr'.mono hle
     · rw [S8];exact hr'.Rh hle hb hrow
   · show (if b'=b then vs[o]? else g.im b' o)=none
     rw [if_neg hne];exact ho'.im o
 · obtain ⟨v,e,size',n',xs,hmt,hown,hrest⟩:=(h.tok t (ht t htk)).row
   refine ⟨v,e,size',n',xs,hmt,hown,fun b' hvb=>?_⟩
   obtain ⟨h1,h2,h3,h4⟩:=hrest b' hvb
   have hne:b'≠b:=fun e=>h3 i hbi (e ▸ hb)
   refine ⟨fun o ho'=>?_,h2,fun j hj=>h3 j (hn' j hj).1,fun t' v' e' s' hne' ht'=>h4 t' v' e' s' hne' (ht t' ht')⟩
   show (if b'=b then vs[o]? else g.im b' o)=none
   rw [if_neg hne];exact h1 o ho'
 · have hne:b'≠b:=fun e=>ho.pr (e ▸ hp)
   refine ⟨(h.pr b' hp).1,fun o=>?_⟩
   show (if b'=b then vs[o]? else g.im b' o)=none
   rw [if_neg hne];exact (h.pr b' hp).2 o
variable {cx:Cx} {K:AV→AK→Prop} {k:List CI}
theorem Run.freeze {i n size:Nat} {cs:List AV} {ds:List DV} (hi:σ.blk i=some cs) (hd:dvs cs=some ds) (hl:cs.length=n * size) (hn:n≤maxLen)
 (hF:∀s,F' s=F s∨F' s=frz i n (chunk size n ds) (F s)) (hL:∀k cs',L' k=some cs'→∃cs0,L k=some cs0∧(cs'=cs0∨cs'=Rh i n (chunk size n ds) cs0))
 (hσ:∀j cs',σ'.blk j=some cs'→j≠i∧∃cs0,σ.blk j=some cs0∧(cs'=cs0∨cs'=Rh i n (chunk size n ds) cs0)) (ht:∀t,σ'.tok t=true→σ.tok t=true)
 (h:Run cx K k F' L' σ') (hgt:σ'.gt=σ.gt:=by rfl) (hbt:σ'.bt=σ.bt:=by rfl):Run cx K k F L σ:=by
 intro items base g lam Pr a w0 w b cs0 hi0 hf hb hk
 obtain ⟨g',bb,hle,hmu,hrow,hrel⟩:=hf.rel.freeze hi hd hl hn hσ ht hgt hbt
 have hf':B2 base g' lam Pr cx.N F' L' σ' a w0 w:=by
  refine ⟨fun s=>?_,hf.sz,hf.df,fun k' cs' hk'=>?_,hf.inj,hf.npr,hrel⟩
  · have hs:=hf.tm s
    have hsm:SV g' lam (F s) (a.tmps.getD s Cs):=by
     generalize F s=fs at hs
     cases fs<;>first|exact VR.mono hle hs|exact hs
    rcases hF s with e|e
    · rw [e];exact hsm
    · rw [e]
      generalize F s=fs at hs hsm
      cases fs<;>first|exact hsm|exact SV.En (VR.frz hle hmu hrow hs)
  · obtain ⟨c0,h0,hc⟩:=hL k' cs' hk'
    obtain ⟨hok,b',vs,ty,h1,h2,h3,h4⟩:=hf.loc k' c0 h0
    refine ⟨?_,b',vs,ty,h1,h2,h3,?_⟩
    · rcases hc with rfl|rfl
      · exact hok
      · exact fR hok
    · rcases hc with rfl|rfl
      · exact h4.mono hle
      · exact h4.Rh hle hmu hrow
 obtain ⟨v,w',fr,hs,hfn,hlv,av,g2,σ2,h1,h2,h3,h4,h5⟩:=h items base g' lam Pr a w0 w b cs0 hi0 hf' hb hk
 exact ⟨v,w',fr,hs,hfn,hlv,av,g2,σ2,h1,h2,Gh.le_trans hle h3,h4,h5⟩
theorem Run.BZ {α:Type} {c:C} (fr:α→Fm) (lo:α→Lm) (hp:α→AK) (inv:α→Prop) (m:α→Nat)
 (step:∀x,inv x→(∀y,inv y→m y < m x→Run cx K (.again c::k) (fr y) (lo y) (hp y))→Run cx K (.code c::.again c::k) (fr x) (lo x) (hp x)) (x:α) (hx:inv x):
 Run cx K (.again c::k) (fr x) (lo x) (hp x):=by
 have:∀(n:Nat) (x:α),m x≤n→inv x→Run cx K (.again c::k) (fr x) (lo x) (hp x):=by
  intro n
  induction n with
  |zero=>intro x hn hx;exact Run.again (step x hx (fun y _ hy=>by omega))
  |succ n ih=>intro x hn hx;exact Run.again (step x hx (fun y hy hlt=>ih y (by omega) hy))
 exact this _ x (A4 _) hx
end Go.Ab
