/- A logic of abstract states over the model: data without addresses, and how it lies in memory. How the relation between an abstract state and a world is carried over the steps of a run: new blocks, stores, appends. Conditions: none. -/
import Derived.Orders
import Derived.Below
import Derived.Laws.AppendOwn
import Derived.Laws.AppendOwnNone
set_option linter.unusedSimpArgs false
set_option linter.unusedVariables false
set_option maxRecDepth 4000
set_option maxHeartbeats 8000000
open List renaming all_cons→CC
open Bool renaming and_eq_true→AR
open Nat renaming le_refl→A4,le_trans→Ay
open Go renaming undef→Cs
open Array renaming getElem?_eq_some_iff→VW
open Option.some renaming injEq→AQ
namespace Go.Ab
open Go.RowKit
inductive DV where
 |int (k:IntKind) (n:Int)
 |bool (b:Bool)
 |str (s:List UInt8)
 |sl (rows:List (List DV))
 |ptr (row:List DV)
 |FN
inductive AV where
 |d (x:DV)
 |AO
 |own (t e size:Nat) (rows:List (List DV))
 |clip (rows:List (List DV))
 |agg (cs:List AV)
 |lp (k off:Nat)
 |gp (i off:Nat)
 |ep (row:List DV) (off:Nat)
 |FN
 |ms (i n s e:Nat)
 |mv (i off n s e:Nat)
 |bp (t e:Nat) (s:List UInt8)
 |PY
 |fn (f:FuncId) (first caps:List AV)
 |tup (vs:List AV)
 |undef
def AV.CB:AV→Bool
 | .agg _| .lp _ _| .tup _| .undef=>false
 |_=>true
def AV.cells:AV→List AV
 | .agg cs=>cs
 |v=>[v]
structure AK where
 blk:Nat→Option (List AV)
 tok:Nat→Bool
 gt:Nat→Option (Array Value)
 bt:Nat→Option (Nat×TypeId)
structure Gh where
 im:Nat→Nat→Option Value
 mu:Nat→Option Nat
 tau:Nat→Option (Value×TypeId×Nat)
 rm:Nat→Option (Nat×TypeId)
structure Gh.le (g g':Gh):Prop where
 im:∀b o v,g.im b o=some v→g'.im b o=some v
 mu:∀i b,g.mu i=some b→g'.mu i=some b
 tau:∀t x,g.tau t=some x→g'.tau t=some x
 rm:∀i n,g.rm i=some n→g'.rm i=some n
theorem Gh.le_refl (g:Gh):g.le g:=⟨fun _ _ _ h=>h,fun _ _ h=>h,fun _ _ h=>h,fun _ _ h=>h⟩
theorem Gh.le_trans {a b c:Gh} (h:a.le b) (k:b.le c):a.le c:=
 ⟨fun _ _ _ x=>k.im _ _ _ (h.im _ _ _ x),fun _ _ x=>k.mu _ _ (h.mu _ _ x),fun _ _ x=>k.tau _ _ (h.tau _ _ x),fun _ _ x=>k.rm _ _ (h.rm _ _ x)⟩
inductive RD (im:Nat→Nat→Option Value):DV→Value→Prop
 |int {k:IntKind} {n:Int} (h:k.has n):RD im (.int k n) (.int k n)
 |bool {b:Bool}:RD im (.bool b) (.bool b)
 |str {s:List UInt8} (h:s.length≤maxLen):RD im (.str s) (.string ⟨s.toArray⟩)
 |nil {a:Option Addr} {cap:Nat} (hm:cap≤maxLen) (h:a=none→cap=0):RD im (.sl []) (.slice a 0 cap)
 |sl {rows:List (List DV)} {b off cap size:Nat} {f:Nat→Nat→Value} (hc:rows.length≤cap) (hm:cap≤maxLen)
  (hs:∀r∈rows,r.length=size)
  (hi:∀i j,i < rows.length→j < size→im b (off+i * size+j)=some (f i j))
  (hr:∀(i:Nat) (r:List DV) (j:Nat) (x:DV),rows[i]?=some r→r[j]?=some x→RD im x (f i j)):
  RD im (.sl rows) (.slice (some ⟨b,off,none⟩) rows.length cap)
 |ptr {row:List DV} {b o:Nat} {f:Nat→Value} (hi:∀j,j < row.length→im b (o+j)=some (f j))
  (hr:∀(j:Nat) (x:DV),row[j]?=some x→RD im x (f j)):RD im (.ptr row) (.pointer (some ⟨b,o,none⟩))
 |FN:RD im .FN (.pointer none)
theorem RD.mono {im im':Nat→Nat→Option Value} (h:∀b o v,im b o=some v→im' b o=some v) {x:DV} {v:Value} (hx:RD im x v):RD im' x v:=by
 induction hx with
 |int h=>exact .int h
 |bool=>exact .bool
 |str h=>exact .str h
 |nil hm h=>exact .nil hm h
 |sl hc hm hs hi hr ih=>exact .sl hc hm hs (fun i j a b=>h _ _ _ (hi i j a b)) ih
 |ptr hi hr ih=>exact .ptr (fun j hj=>h _ _ _ (hi j hj)) ih
 |FN=>exact .FN
theorem RD.one {im:Nat→Nat→Option Value} {x:DV} {v:Value} (hx:RD im x v):v.oneCell'=true:=by cases hx<;>rfl
inductive VR (g:Gh):AV→Value→Prop
 |d {x:DV} {v:Value} (h:RD g.im x v):VR g (.d x) v
 |AO:VR g .AO (.slice none 0 0)
 |own {t e size:Nat} {rows:List (List DV)} {v:Value} (h:RD g.im (.sl rows) v) (ht:g.tau t=some (v,e,size)) (hs:∀r∈rows,r.length=size):VR g (.own t e size rows) v
 |clip {rows:List (List DV)} {a:Option Addr} {n:Nat} (h:RD g.im (.sl rows) (.slice a n n)):VR g (.clip rows) (.slice a n n)
 |agg {cs:List AV} {vs:List Value} (hl:vs.length=cs.length) (hc:∀c∈cs,c.CB=true)
  (h:∀(i:Nat) (c:AV) (v:Value),cs[i]?=some c→vs[i]?=some v→VR g c v):VR g (.agg cs) (.agg vs.toArray)
 |gp {i off b:Nat} (h:g.mu i=some b):VR g (.gp i off) (.pointer (some ⟨b,off,none⟩))
 |ep {row:List DV} {off b o:Nat} {f:Nat→Value} (hi:∀j,j < row.length→g.im b (o+j)=some (f j))
  (hr:∀j x,row[j]?=some x→RD g.im x (f j)):VR g (.ep row off) (.pointer (some ⟨b,o+off,none⟩))
 |FN:VR g .FN (.pointer none)
 |ms {i n s e b cap:Nat} (h:g.mu i=some b) (hr:g.rm i=some (cap * s,e)) (hn:n≤cap) (hm:cap≤maxLen):VR g (.ms i n s e) (.slice (some ⟨b,0,none⟩) n cap)
 |mv {i off n s e b o cap:Nat} (h:g.mu i=some b) (hr:g.rm i=some (cap * s,e)) (hn:off+n≤cap) (hm:cap≤maxLen) (ho:off < cap→o=off * s):VR g (.mv i off n s e) (.slice (some ⟨b,o,none⟩) n (cap - off))
 |bp {t e cap b off:Nat} {s:List UInt8} (ht:g.tau t=some (.slice (some ⟨b,off,none⟩) s.length cap,e,1)) (him:∀(j:Nat) (x:UInt8),s[j]?=some x→g.im b (off+j)=some (.int .u8 x.toNat)):VR g (.bp t e s) (.pointer (some ⟨b,off,none⟩))
 |PY:VR g .PY .nilFunc
 |fn {f:FuncId} {first caps:List AV} {fs cs:List Value} (hl:fs.length=first.length) (hl':cs.length=caps.length)
  (h:∀(i:Nat) (c:AV) (v:Value),first[i]?=some c→fs[i]?=some v→VR g c v)
  (h':∀(i:Nat) (c:AV) (v:Value),caps[i]?=some c→cs[i]?=some v→VR g c v):VR g (.fn f first caps) (.func (.func f) fs.toArray cs.toArray)
 |tup {cs:List AV} {vs:List Value} (hl:vs.length=cs.length)
  (h:∀(i:Nat) (c:AV) (v:Value),cs[i]?=some c→vs[i]?=some v→VR g c v):VR g (.tup cs) (.tuple vs.toArray)
 |undef {v:Value}:VR g .undef v
theorem VR.mono {g g':Gh} (hg:g.le g') {x:AV} {v:Value} (hx:VR g x v):VR g' x v:=by
 induction hx with
 |d h=>exact .d (h.mono hg.im)
 |AO=>exact .AO
 |own h ht hs=>exact .own (h.mono hg.im) (hg.tau _ _ ht) hs
 |clip h=>exact .clip (h.mono hg.im)
 |agg hl hc _ ih=>exact .agg hl hc ih
 |gp h=>exact .gp (hg.mu _ _ h)
 |ep hi hr=>exact .ep (fun j hj=>hg.im _ _ _ (hi j hj)) (fun j x hx=>(hr j x hx).mono hg.im)
 |FN=>exact .FN
 |ms h hr hn hm=>exact .ms (hg.mu _ _ h) (hg.rm _ _ hr) hn hm
 |mv h hr hn hm ho=>exact .mv (hg.mu _ _ h) (hg.rm _ _ hr) hn hm ho
 |bp ht him=>exact .bp (hg.tau _ _ ht) (fun j x hx=>hg.im _ _ _ (him j x hx))
 |PY=>exact .PY
 |fn hl hl' _ _ ih ih'=>exact .fn hl hl' ih ih'
 |tup hl _ ih=>exact .tup hl ih
 |undef=>exact .undef
theorem VR.one {g:Gh} {x:AV} {v:Value} (hc:x.CB=true) (hx:VR g x v):v.oneCell'=true:=by
 cases hx with
 |d h=>exact h.one
 |own h _ _=>exact h.one
 |agg=>cases hc
 |tup=>cases hc
 |undef=>cases hc
 |_=>rfl
inductive VRs (g:Gh):List AV→List Value→Prop
 |nil:VRs g [] []
 |cons {c:AV} {v:Value} {cs:List AV} {vs:List Value} (h:VR g c v) (hs:VRs g cs vs):VRs g (c::cs) (v::vs)
theorem VRs.mono {g g':Gh} (hg:g.le g') {cs:List AV} {vs:List Value} (h:VRs g cs vs):VRs g' cs vs:=by
 induction h with
 |nil=>exact .nil
 |cons h _ ih=>exact .cons (h.mono hg) ih
theorem VRs.length {g:Gh} {cs:List AV} {vs:List Value} (h:VRs g cs vs):vs.length=cs.length:=by
 induction h with
 |nil=>rfl
 |cons _ _ ih=>simp [ih]
theorem VRs.at {g:Gh} {cs:List AV} {vs:List Value} (h:VRs g cs vs):∀(i:Nat) (c:AV),cs[i]?=some c→∃v,vs[i]?=some v∧VR g c v:=by
 induction h with
 |nil=>intro i c hi;simp at hi
 |cons h _ ih=>
  intro i c hi
  cases i with
  |zero=>simp at hi;subst hi;exact ⟨_,rfl,h⟩
  |succ i=>simpa using ih i c (by simpa using hi)
theorem VRs.O8 {g:Gh}:∀(cs:List AV) (vs:List Value),vs.length=cs.length→(∀(i:Nat) (c:AV) (v:Value),cs[i]?=some c→vs[i]?=some v→VR g c v)→VRs g cs vs
 |[],[],_,_=>.nil
 |[],_::_,h,_=>by simp at h
 |_::_,[],h,_=>by simp at h
 |c::cs,v::vs,h,k=>.cons (k 0 c v rfl rfl) (VRs.O8 cs vs (by simpa using h) fun i c v hc hv=>k (i+1) c v (by simpa using hc) (by simpa using hv))
theorem VRs.idx {g:Gh} {cs:List AV} {vs:List Value} (h:VRs g cs vs) (i:Nat) (c:AV) (v:Value) (hc:cs[i]?=some c) (hv:vs[i]?=some v):VR g c v:=by
 obtain ⟨u,hu,hr⟩:=h.at i c hc
 rw [hu] at hv;cases hv;exact hr
theorem VRs.append {g:Gh} {cs ds:List AV} {vs us:List Value} (h:VRs g cs vs) (k:VRs g ds us):VRs g (cs++ds) (vs++us):=by
 induction h with
 |nil=>exact k
 |cons h _ ih=>exact .cons h ih
theorem VRs.take {g:Gh} {cs:List AV} {vs:List Value} (h:VRs g cs vs) (n:Nat):VRs g (cs.take n) (vs.take n):=by
 induction h generalizing n with
 |nil=>simpa using .nil
 |cons h _ ih=>cases n with
  |zero=>simpa using .nil
  |succ n=>simpa using .cons h (ih n)
theorem VRs.drop {g:Gh} {cs:List AV} {vs:List Value} (h:VRs g cs vs) (n:Nat):VRs g (cs.drop n) (vs.drop n):=by
 induction h generalizing n with
 |nil=>simpa using .nil
 |cons h hs ih=>cases n with
  |zero=>simpa using .cons h hs
  |succ n=>simpa using ih n
def Ag (cs:List AV):Bool:=cs.all AV.CB
theorem VRs.ADC {g:Gh} {cs:List AV} {vs:List Value} (h:VRs g cs vs) (hc:Ag cs=true):∀v∈vs,v.oneCell'=true:=by
 induction h with
 |nil=>intro v hv;cases hv
 |cons h _ ih=>
  simp only [Ag,CC,AR] at hc
  intro v hv
  cases hv with
  |head=>exact h.one hc.1
  |tail _ hv=>exact ih hc.2 v hv
theorem VR.cells {g:Gh} {x:AV} {v:Value} (h:VR g x v) (hc:Ag x.cells=true):VRs g x.cells v.cells.toList:=by
 cases h with
 |agg hl _ h=>exact VRs.O8 _ _ (by simpa [Value.cells,AV.cells] using hl) (by simpa [Value.cells,AV.cells] using h)
 |tup=>simp [AV.cells,Ag,AV.CB] at hc
 |undef=>simp [AV.cells,Ag,AV.CB] at hc
 |d h=>
  have:=h.one
  cases v<;>first|(cases h;done)|exact .cons (.d h) .nil
 |own h ht hs=>
  cases h with
  |nil a b=>exact .cons (.own (.nil a b) ht hs) .nil
  |sl a b c e f=>exact .cons (.own (.sl a b c e f) ht hs) .nil
 |AO=>exact .cons .AO .nil
 |clip h=>exact .cons (.clip h) .nil
 |gp h=>exact .cons (.gp h) .nil
 |ep h k=>exact .cons (.ep h k) .nil
 |FN=>exact .cons .FN .nil
 |ms h hr k hm=>exact .cons (.ms h hr k hm) .nil
 |mv h hr k hm ho=>exact .cons (.mv h hr k hm ho) .nil
 |bp h k=>exact .cons (.bp h k) .nil
 |PY=>exact .cons .PY .nil
 |fn a b c e=>exact .cons (.fn a b c e) .nil
structure AEL (base:Nat) (g:Gh) (Pr:Nat→Prop) (σ:AK) (t:Nat) (w:World):Prop where
 row:∃v e size n xs,g.tau t=some (v,e,size)∧w.ownsRow base e size v n xs∧
  ∀b,v.ownBlock=some b→(∀o,n * size≤o→g.im b o=none)∧¬Pr b∧(∀i,σ.blk i≠none→g.mu i≠some b)∧
   (∀t' v' e' s',t'≠t→σ.tok t'=true→g.tau t'=some (v',e',s')→v'.ownBlock≠some b)
structure AEK (base:Nat) (g:Gh) (Pr:Nat→Prop) (rt:Option (Nat×TypeId)) (cs:List AV) (b:Nat) (w:World):Prop where
 ok:Ag cs=true
 row:∃vs ty,w.heap[b]?=some (.cells vs ty (0,0))∧cs.length≤vs.size∧(∀t,rt=some t→vs.size=t.1∧ty=t.2)∧VRs g cs (vs.toList.take cs.length)
 low:base≤b
 im:∀o,g.im b o=none
 pr:¬Pr b
def AK.St (σ:AK) (g:Gh) (base:Nat) (w0:World):Prop:=(∀b vs,σ.gt b=some vs→b < base∧∃ty fr,w0.heap[b]?=some (.cells vs ty fr))∧(∀i x,σ.bt i=some x→g.rm i=some x)
theorem AK.St.mono {σ σ':AK} {g g':Gh} {base:Nat} {w0:World} (h:σ.St g base w0) (hg:g.le g') (h1:σ'.gt=σ.gt) (h2:σ'.bt=σ.bt):σ'.St g' base w0:=
 ⟨fun b vs hv=>h.1 b vs (by rw [← h1];exact hv),fun i x hx=>hg.rm _ _ (h.2 i x (by rw [← h2];exact hx))⟩
structure Rel (base:Nat) (g:Gh) (Pr:Nat→Prop) (σ:AK) (w0 w:World):Prop where
 im:∀b o v,g.im b o=some v→w.cell? ⟨b,o,none⟩=some v
 shr:∀i cs,σ.blk i=some cs→∃b,g.mu i=some b∧AEK base g Pr (g.rm i) cs b w
 inj:∀i j b,σ.blk i≠none→σ.blk j≠none→g.mu i=some b→g.mu j=some b→i=j
 tok:∀t,σ.tok t=true→AEL base g Pr σ t w
 pr:∀b,Pr b→b < w.heap.size∧∀o,g.im b o=none
 bel:Below base w0 w
 bs:base≤w.heap.size
 fin:∃n,∀i,n≤i→g.mu i=none∧g.tau i=none∧g.rm i=none
 st:σ.St g base w0
def KP (Pr:Nat→Prop) (w w':World):Prop:=w.heap.size≤w'.heap.size∧∀b,Pr b→w'.heap[b]?=w.heap[b]?
theorem KP.refl (Pr:Nat→Prop) (w:World):KP Pr w w:=⟨A4 _,fun _ _=>rfl⟩
theorem KP.trans {Pr:Nat→Prop} {a b c:World} (h:KP Pr a b) (k:KP Pr b c):KP Pr a c:=
 ⟨Ay h.1 k.1,fun x hx=>(k.2 x hx).trans (h.2 x hx)⟩
def SV (g:Gh) (lam:Nat→Option Nat):AV→Value→Prop
 | .lp k off,v=>∃b,lam k=some b∧v= .pointer (some ⟨b,off,none⟩)
 |x,v=>VR g x v
theorem SV.En {g:Gh} {lam:Nat→Option Nat} {x:AV} {v:Value} (h:VR g x v):SV g lam x v:=by
 cases x<;>first|exact h|(cases h;done)
def AV.BL:AV→Bool
 | .lp _ _=>false
 |_=>true
theorem SV.vr {g:Gh} {lam:Nat→Option Nat} {x:AV} {v:Value} (hn:x.BL=true) (h:SV g lam x v):VR g x v:=by
 cases x<;>first|exact h|(cases hn;done)
abbrev Fm:=Nat→AV
abbrev Lm:=Nat→Option (List AV)
structure B2 (base:Nat) (g:Gh) (lam:Nat→Option Nat) (Pr:Nat→Prop) (N:Nat) (F:Fm) (L:Lm) (σ:AK) (a:Act) (w0 w:World):Prop where
 tm:∀s,SV g lam (F s) (a.tmps.getD s Cs)
 sz:a.tmps.size=N
 df:a.defers=[]
 loc:∀k cs,L k=some cs→Ag cs=true∧∃b vs ty,lam k=some b∧base≤b∧w.heap[b]?=some (.cells vs ty (0,0))∧VRs g cs vs.toList
 inj:∀k k' b,lam k=some b→lam k'=some b→k=k'
 npr:∀k b,lam k=some b→¬Pr b
 rel:Rel base g (fun b=>Pr b∨∃k,lam k=some b) σ w0 w
def AP (P:Program) (f:FuncId) (args:List AV) (σ:AK) (Q:AV→AK→Prop):Prop:=
 ∀(base:Nat) (g:Gh) (Pr:Nat→Prop) (w0 w:World) (vs:List Value),Rel base g Pr σ w0 w→VRs g args vs→
  Calls P f vs.toArray w fun e w'=>∃v av g' σ',e= .returned v∧VR g' av v∧Rel base g' Pr σ' w0 w'∧g.le g'∧KP Pr w w'∧Q av σ'
theorem AP.mono {P:Program} {f:FuncId} {args:List AV} {σ:AK} {Q Q':AV→AK→Prop} (h:AP P f args σ Q) (hq:∀v σ',Q v σ'→Q' v σ'):AP P f args σ Q':=
 fun base g Pr w0 w vs hr hv=>(h base g Pr w0 w vs hr hv).mono fun _ _ ⟨v,av,g',σ',a,b,c,d,e,q⟩=>⟨v,av,g',σ',a,b,c,d,e,hq _ _ q⟩
end Go.Ab
namespace Go.Ab
open Go.RowKit
variable {base N:Nat} {g:Gh} {Pr:Nat→Prop} {σ:AK} {w0 w w':World} {lam:Nat→Option Nat} {F:Fm} {L:Lm} {a:Act}
theorem Rel.Sw (h:Rel base g Pr σ w0 w) {b o:Nat} {v:Value} (hi:g.im b o=some v):b < w.heap.size:=
 World.block_lt_of_cell? w ⟨b,o,none⟩ (h.im b o v hi)
theorem Rel.RB (h:Rel base g Pr σ w0 w) {i:Nat} {cs:List AV} (hi:σ.blk i=some cs) {b:Nat} (hb:g.mu i=some b):b < w.heap.size:=by
 obtain ⟨b',hb',hs⟩:=h.shr i cs hi
 rw [hb'] at hb;cases hb
 obtain ⟨vs,ty,hv,_,_,_⟩:=hs.row
 exact (VW.1 hv).1
theorem Mn {e size n:Nat} {v:Value} {xs:List Value} (h:w.ownsRow base e size v n xs) (hb:∀b,v.ownBlock=some b→w'.heap[b]?=w.heap[b]?):w'.ownsRow base e size v n xs:=by
 refine ⟨h.1,?_⟩
 rcases h.2 with hn|⟨gg,cap,cur,rfl,hbase,hgg,rest⟩
 · exact .inl hn
 · exact .inr ⟨gg,cap,cur,rfl,hbase,by rw [hb gg rfl];exact hgg,rest⟩
theorem Rel.grow (h:Rel base g Pr σ w0 w) (hsz:w.heap.size≤w'.heap.size) (hb:∀b,b < w.heap.size→¬Pr b→w'.heap[b]?=w.heap[b]?)
 (hbel:Below base w w') {Pr':Nat→Prop} (hpr:∀b,Pr' b→b < w'.heap.size∧(Pr b∨w.heap.size≤b)):Rel base g Pr' σ w0 w':=by
 have him:∀b o v,g.im b o=some v→¬Pr b:=fun b o v hi hp=>by rw [(h.pr b hp).2 o] at hi;cases hi
 refine ⟨fun b o v hi=>?_,fun i cs hi=>?_,h.inj,fun t ht=>?_,fun b hp=>?_,h.bel.trans hbel,Ay h.bs hsz,h.fin,h.st⟩
 · rw [World.cell?_of_block (w:=w) (hb b (h.Sw hi) (him b o v hi))];exact h.im b o v hi
 · obtain ⟨b,hm,ho⟩:=h.shr i cs hi
   obtain ⟨vs,ty,hv,hl,ht,hr⟩:=ho.row
   have hlt:b < w.heap.size:=(VW.1 hv).1
   refine ⟨b,hm,ho.ok,⟨vs,ty,by rw [hb b hlt ho.pr];exact hv,hl,ht,hr⟩,ho.low,ho.im,fun hp=>?_⟩
   rcases (hpr b hp).2 with hp|hp
   · exact ho.pr hp
   · omega
 · obtain ⟨v,e,size,n,xs,hm,hown,hrest⟩:=(h.tok t ht).row
   refine ⟨v,e,size,n,xs,hm,Mn hown fun b hvb=>hb b (hown.lt b hvb).2 (hrest b hvb).2.1,fun b hvb=>?_⟩
   obtain ⟨h1,h2,h3,h4⟩:=hrest b hvb
   refine ⟨h1,fun hp=>?_,h3,h4⟩
   rcases (hpr b hp).2 with hp|hp
   · exact h2 hp
   · have:=(hown.lt b hvb).2;omega
 · refine ⟨(hpr b hp).1,fun o=>?_⟩
   rcases (hpr b hp).2 with hp|hp
   · exact (h.pr b hp).2 o
   · cases hi:g.im b o with
     |none=>rfl
     |some v=>have:=h.Sw hi;omega
def Gh.settle (g:Gh) (b n:Nat) (vs:Array Value):Gh:=
 { g with im:=fun b' o=>if b'=b then (if o < n then vs[o]? else none) else g.im b' o}
theorem Rel.Tc (h:Rel base g Pr σ w0 w) (b n:Nat) (vs:Array Value) (hb:w.heap.size≤b):g.le (g.settle b n vs):=by
 refine ⟨fun b' o v hi=>?_,fun _ _ h=>h,fun _ _ h=>h,fun _ _ h=>h⟩
 have:b'≠b:=fun e=>by have:=h.Sw hi;omega
 simp [Gh.settle,this,hi]
theorem Rel.settle (h:Rel base g Pr σ w0 w) {b n:Nat} {vs:Array Value} (hb:w.heap.size≤b) (h':Rel base g Pr σ w0 w') (hc:∀o,w'.cell? ⟨b,o,none⟩=vs[o]?):Rel base (g.settle b n vs) Pr σ w0 w':=by
 have hle:=h.Tc b n vs hb
 refine ⟨fun b' o v hi=>?_,fun i cs hi=>?_,h.inj,fun t ht=>?_,fun b' hp=>?_,h'.bel,h'.bs,h.fin,h.st.mono hle rfl rfl⟩
 · by_cases e:b'=b
   · subst e
     simp only [Gh.settle,if_true] at hi
     split at hi
     · rw [hc];exact hi
     · cases hi
   · simp only [Gh.settle,if_neg e] at hi
     exact h'.im b' o v hi
 · obtain ⟨b',hm,ho⟩:=h'.shr i cs hi
   have hlt:b' < w.heap.size:=h.RB hi hm
   have hne:b'≠b:=by omega
   obtain ⟨vs',ty,hv,hl,ht,hr⟩:=ho.row
   exact ⟨b',hm,ho.ok,⟨vs',ty,hv,hl,ht,hr.mono hle⟩,ho.low,fun o=>by simp [Gh.settle,hne,ho.im o],ho.pr⟩
 · obtain ⟨v,e,size,n',xs,hm,hown,hrest⟩:=(h'.tok t ht).row
   refine ⟨v,e,size,n',xs,hm,hown,fun b' hvb=>?_⟩
   obtain ⟨h1,h2,h3,h4⟩:=hrest b' hvb
   obtain ⟨v2,e2,size2,n2,xs2,hm2,hown2,_⟩:=(h.tok t ht).row
   rw [hm] at hm2;cases hm2
   have hne:b'≠b:=by have:=(hown2.lt b' hvb).2;omega
   exact ⟨fun o ho=>by simp [Gh.settle,hne,h1 o ho],h2,h3,h4⟩
 · have hne:b'≠b:=fun e=>by have:=(h.pr b' hp).1;omega
   exact ⟨(h'.pr b' hp).1,fun o=>by simp [Gh.settle,hne,(h'.pr b' hp).2 o]⟩
def AK.AH (σ:AK) (i:Nat) (cs:List AV):AK:= { σ with blk:=fun j=>if j=i then some cs else σ.blk j}
def AK.DB (σ:AK) (i:Nat):AK:= { σ with blk:=fun j=>if j=i then none else σ.blk j}
def AK.CO (σ:AK) (t:Nat):AK:= { σ with tok:=fun j=>if j=t then true else σ.tok j}
def AK.FL (σ:AK) (t:Nat):AK:= { σ with tok:=fun j=>if j=t then false else σ.tok j}
def AK.HI (σ:AK) (i:Nat) (x:Nat×TypeId):AK:= { σ with bt:=fun j=>if j=i then some x else σ.bt j}
structure AK.le (σ' σ:AK):Prop where
 blk:∀i cs,σ'.blk i=some cs→σ.blk i=some cs
 tok:∀t,σ'.tok t=true→σ.tok t=true
 gt:σ'.gt=σ.gt
 bt:∀i x,σ'.bt i=some x→σ.bt i=some x
theorem AK.le_refl (σ:AK):σ.le σ:=⟨fun _ _ h=>h,fun _ h=>h,rfl,fun _ _ h=>h⟩
theorem Rel.less (h:Rel base g Pr σ w0 w) {σ':AK} (hl:σ'.le σ):Rel base g Pr σ' w0 w:=by
 have hn:∀i,σ'.blk i≠none→σ.blk i≠none:=fun i hi e=>by
  cases hc:σ'.blk i with
  |none=>exact hi hc
  |some cs=>rw [hl.blk i cs hc] at e;cases e
 refine ⟨h.im,fun i cs hi=>h.shr i cs (hl.blk i cs hi),fun i j b hi hj=>h.inj i j b (hn i hi) (hn j hj),fun t ht=>?_,h.pr,h.bel,h.bs,h.fin,⟨fun b vs hv=>h.st.1 b vs (by rw [← hl.gt];exact hv),fun i x hx=>h.st.2 i x (hl.bt i x hx)⟩⟩
 obtain ⟨v,e,size,n,xs,hm,hown,hrest⟩:=(h.tok t (hl.tok t ht)).row
 refine ⟨v,e,size,n,xs,hm,hown,fun b hvb=>?_⟩
 obtain ⟨h1,h2,h3,h4⟩:=hrest b hvb
 exact ⟨h1,h2,fun i hi=>h3 i (hn i hi),fun t' v' e' s' hne ht'=>h4 t' v' e' s' hne (hl.tok t' ht')⟩
theorem Rel.HI (h:Rel base g Pr σ w0 w) {i:Nat} {x:Nat×TypeId} (hx:g.rm i=some x):Rel base g Pr (σ.HI i x) w0 w:=
 ⟨h.im,h.shr,h.inj,fun t ht=>⟨(h.tok t ht).row⟩,h.pr,h.bel,h.bs,h.fin,h.st.1,fun j y hy=>by
   by_cases e:j=i
   · subst e;simp only [AK.HI,if_true,AQ] at hy;rw [← hy];exact hx
   · simp only [AK.HI,if_neg e] at hy;exact h.st.2 j y hy⟩
theorem Rel.fresh (h:Rel base g Pr σ w0 w):∃i,(g.mu i=none∧g.rm i=none)∧g.tau i=none∧σ.blk i=none∧σ.tok i=false:=by
 obtain ⟨n,hn⟩:=h.fin
 refine ⟨n,⟨(hn n (A4 _)).1,(hn n (A4 _)).2.2⟩,(hn n (A4 _)).2.1,?_,?_⟩
 · cases hc:σ.blk n with
   |none=>rfl
   |some cs=>obtain ⟨b,hb,_⟩:=h.shr n cs hc;rw [(hn n (A4 _)).1] at hb;cases hb
 · cases hc:σ.tok n with
   |false=>rfl
   |true=>obtain ⟨v,e,s,m,xs,hm,_⟩:=(h.tok n hc).row;rw [(hn n (A4 _)).2.1] at hm;cases hm
def Gh.share (g:Gh) (i b:Nat) (rt:Option (Nat×TypeId)):Gh:= { g with mu:=fun j=>if j=i then some b else g.mu j,rm:=fun j=>if j=i then rt else g.rm j}
theorem Gh.IU {i b:Nat} {rt:Option (Nat×TypeId)} (hi:g.mu i=none∧g.rm i=none):g.le (g.share i b rt):=
 ⟨fun _ _ _ h=>h,fun j c h=>by have:j≠i:=fun e=>by rw [e,hi.1] at h;cases h
                               simp [Gh.share,this,h],fun _ _ h=>h,
  fun j c h=>by have:j≠i:=fun e=>by rw [e,hi.2] at h;cases h
                simp [Gh.share,this,h]⟩
theorem Rel.bD (h:Rel base g Pr σ w0 w) {i b:Nat} {rt:Option (Nat×TypeId)} (hi:g.mu i=none∧g.rm i=none) (hb:base≤b) (hno:∀j,σ.blk j≠none→g.mu j≠some b) (him:∀o,g.im b o=none)
 (htk:∀t v e s,σ.tok t=true→g.tau t=some (v,e,s)→v.ownBlock≠some b) {cs:List AV} {vs:Array Value} {ty:TypeId}
 (hv:w.heap[b]?=some (.cells vs ty (0,0))) (hl:cs.length≤vs.size) (hrt:∀t,rt=some t→vs.size=t.1∧ty=t.2) (hr:VRs g cs (vs.toList.take cs.length)) (hok:Ag cs=true) (hpr:¬Pr b):
 Rel base (g.share i b rt) Pr (σ.AH i cs) w0 w:=by
 have hle:=Gh.IU (g:=g) (i:=i) (b:=b) (rt:=rt) hi
 have hne:∀j,σ.blk j≠none→j≠i:=fun j hj e=>by
  subst e
  cases hc:σ.blk j with
  |none=>exact hj hc
  |some cs=>obtain ⟨b,hb,_⟩:=h.shr j cs hc;rw [hi.1] at hb;cases hb
 refine ⟨h.im,fun j cs' hj=>?_,fun j k b' hj hk hm hm'=>?_,fun t ht=>?_,h.pr,h.bel,h.bs,?_,h.st.mono hle rfl rfl⟩
 · by_cases e:j=i
   · subst e
     simp only [AK.AH,if_true] at hj;cases hj
     exact ⟨b,by simp [Gh.share],hok,⟨vs,ty,hv,hl,by simpa [Gh.share] using hrt,hr.mono hle⟩,hb,him,hpr⟩
   · simp only [AK.AH,if_neg e] at hj
     obtain ⟨b',hm,ho⟩:=h.shr j cs' hj
     obtain ⟨vs',ty',hv',hl',ht',hr'⟩:=ho.row
     exact ⟨b',hle.mu _ _ hm,ho.ok,⟨vs',ty',hv',hl',by simpa [Gh.share,e] using ht',hr'.mono hle⟩,ho.low,ho.im,ho.pr⟩
 · by_cases e:j=i<;>by_cases e':k=i
   · omega
   · simp only [AK.AH,if_neg e'] at hk
     simp only [Gh.share,if_neg e',if_pos e] at hm hm'
     cases hm;exact absurd hm' (hno k hk)
   · simp only [AK.AH,if_neg e] at hj
     simp only [Gh.share,if_neg e,if_pos e'] at hm hm'
     cases hm';exact absurd hm (hno j hj)
   · simp only [AK.AH,if_neg e,if_neg e'] at hj hk
     simp only [Gh.share,if_neg e,if_neg e'] at hm hm'
     exact h.inj j k b' hj hk hm hm'
 · obtain ⟨v,e,size,n,xs,hm,hown,hrest⟩:=(h.tok t ht).row
   refine ⟨v,e,size,n,xs,hm,hown,fun b' hvb=>?_⟩
   obtain ⟨h1,h2,h3,h4⟩:=hrest b' hvb
   refine ⟨h1,h2,fun j hj=>?_,h4⟩
   by_cases e':j=i
   · subst e'
     have:b≠b':=fun eb=>htk t v e size ht hm (eb ▸ hvb)
     simp [Gh.share];exact this
   · simp only [AK.AH,if_neg e'] at hj
     simp only [Gh.share,if_neg e']
     exact h3 j hj
 · obtain ⟨n,hn⟩:=h.fin
   refine ⟨max n (i+1),fun j hj=>⟨?_,(hn j (by omega)).2.1,?_⟩⟩
   · have:j≠i:=by omega
     simp [Gh.share,this,(hn j (by omega)).1]
   · have:j≠i:=by omega
     simp [Gh.share,this,(hn j (by omega)).2.2]
theorem Rel.share (h:Rel base g Pr σ w0 w) {i b:Nat} {rt:Option (Nat×TypeId)} (hi:g.mu i=none∧g.rm i=none) (hb:w.heap.size≤b) (h':Rel base g Pr σ w0 w') {cs:List AV} {vs:Array Value} {ty:TypeId}
 (hv:w'.heap[b]?=some (.cells vs ty (0,0))) (hrt:∀t,rt=some t→vs.size=t.1∧ty=t.2) (hr:VRs g cs vs.toList) (hok:Ag cs=true) (hpr:¬Pr b):Rel base (g.share i b rt) Pr (σ.AH i cs) w0 w':=by
 have hlen:=hr.length
 refine h'.bD hi (by have:=h.bs;omega) (fun j hj hm=>?_) (fun o=>?_) (fun t v e s ht hm hvb=>?_) hv (by simp at hlen;omega) hrt (by rw [← hlen,List.take_length];exact hr) hok hpr
 · cases hc:σ.blk j with
   |none=>exact hj hc
   |some cs=>have:=h.RB hc hm;omega
 · cases hi':g.im b o with
   |none=>rfl
   |some v=>have:=h.Sw hi';omega
 · obtain ⟨v2,e2,size2,n2,xs2,hm2,hown2,_⟩:=(h.tok t ht).row
   rw [hm] at hm2;cases hm2
   have:=(hown2.lt b hvb).2;omega
theorem Rel.write (h:Rel base g Pr σ w0 w) {i b:Nat} {cs cs':List AV} (hi:σ.blk i=some cs) (hm:g.mu i=some b) (hsz:w.heap.size≤w'.heap.size)
 (hb:∀k,k < w.heap.size→k≠b→w'.heap[k]?=w.heap[k]?) (hbel:Below base w w') {vs:Array Value} {ty:TypeId}
 (hv:w'.heap[b]?=some (.cells vs ty (0,0))) (hl:cs'.length≤vs.size) (hrt:∀t,g.rm i=some t→vs.size=t.1∧ty=t.2) (hr:VRs g cs' (vs.toList.take cs'.length)) (hok:Ag cs'=true):Rel base g Pr (σ.AH i cs') w0 w':=by
 obtain ⟨b0,hm0,ho0⟩:=h.shr i cs hi
 rw [hm] at hm0;cases hm0
 have hpr:∀k,Pr k→k≠b:=fun k hk e=>ho0.pr (e ▸ hk)
 have hn:∀j,(σ.AH i cs').blk j≠none→σ.blk j≠none:=fun j hj e=>by
  by_cases e':j=i
  · subst e';rw [hi] at e;cases e
  · simp only [AK.AH,if_neg e'] at hj;exact hj e
 refine ⟨fun b' o v hb'=>?_,fun j cs2 hj=>?_,fun j k b' hj hk=>h.inj j k b' (hn j hj) (hn k hk),fun t ht=>?_,fun k hk=>?_,h.bel.trans hbel,Ay h.bs hsz,h.fin,h.st⟩
 · have hne:b'≠b:=fun e=>by subst e;rw [ho0.im o] at hb';cases hb'
   rw [World.cell?_of_block (w:=w) (hb b' (h.Sw hb') hne)];exact h.im b' o v hb'
 · by_cases e:j=i
   · subst e
     simp only [AK.AH,if_true] at hj;cases hj
     exact ⟨b,hm,hok,⟨vs,ty,hv,hl,hrt,hr⟩,ho0.low,ho0.im,ho0.pr⟩
   · simp only [AK.AH,if_neg e] at hj
     obtain ⟨b',hm',ho⟩:=h.shr j cs2 hj
     obtain ⟨vs',ty',hv',hl',ht',hr'⟩:=ho.row
     have hne:b'≠b:=fun e'=>e (h.inj j i b (by rw [hj];simp) (by rw [hi];simp) (e' ▸ hm') hm)
     exact ⟨b',hm',ho.ok,⟨vs',ty',by rw [hb b' (h.RB hj hm') hne];exact hv',hl',ht',hr'⟩,ho.low,ho.im,ho.pr⟩
 · obtain ⟨v,e,size,n,xs,hmt,hown,hrest⟩:=(h.tok t ht).row
   refine ⟨v,e,size,n,xs,hmt,Mn hown fun b' hvb=>?_,fun b' hvb=>?_⟩
   · exact hb b' (hown.lt b' hvb).2 fun e'=>(hrest b' hvb).2.2.1 i (by rw [hi];simp) (e' ▸ hm)
   · obtain ⟨h1,h2,h3,h4⟩:=hrest b' hvb
     exact ⟨h1,h2,fun j hj=>h3 j (hn j hj),h4⟩
 · exact ⟨by have:=(h.pr k hk).1;omega,(h.pr k hk).2⟩
end Go.Ab
