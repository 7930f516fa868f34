/- Part Ab1. Conditions: none. -/
import Derived.Orders
import Derived.Below
import Derived.Laws.AppendOwn
import Derived.Laws.AppendOwnNone
import Derived.Laws.Strings
import Derived.Laws.StructEq
set_option linter.unusedSimpArgs false
set_option linter.unusedVariables false
set_option maxRecDepth 100000
set_option maxHeartbeats 40000000
open List renaming map_cons→AD,all_cons→Bk,take_length→BR,length_append→AX,append_assoc→Az,eq_nil_of_length_eq_zero→BP,nil_append→As,length_take→B4,length_drop→Cm,getElem?_append_left→BQ,replicate→AF,getElem?_take→B2,getElem?_drop→BT,mem_of_mem_drop→I8,mem_of_mem_take→D5,all_eq_true→A8,range→BA,getElem?_map→Aj,getElem?_range→ED,getElem?_eq_some_iff→AG,mem_of_getElem?→AE,take_zero→Cn,getElem_mem→H8,drop_drop→FN,foldl_cons→Ao,length_cons→A1,getElem?_cons_succ→mM,getElem_of_mem→Bt,getElem?_eq_getElem→BB,getD_eq_getElem?_getD→Ac,replicate_succ→B1,flatten_cons→BU,flatten_append→PB,map_append→Ay,foldlM_cons→OP,ext_getElem?→FO,getElem?_append_right→BL,getElem?_eq_none→B9,mem_append→A0,length_map→AA
open Bool renaming and_eq_true→AO,false_eq_true→A3,or_eq_true→DI,not_eq_true'→Br,and_self→Wa,true_and→BY
open Array renaming getElem?_eq_some_iff→N0,length_toList→Oy,range→Wc,getD_eq_getD_getElem?→DR
open Nat renaming le_refl→AW,le_trans→Ap,add_mul→CK,zero_add→BJ,mul_le_mul_right→Bw,lt_or_ge→C7,lt_of_lt_of_le→CV,add_assoc→Wb,zero_le→GW,zero_mul→OR,add_zero→CC,succ_mul→OQ,min_eq_left→Dd
open Go renaming undef→Cu
open Option.some renaming injEq→AL
open Ne renaming symm→A9
open Option renaming map_eq_some_iff→AN,bind_eq_some_iff→AB,map_some→Ah,bind_eq_bind→AQ
open ByteArray renaming mk→HW
namespace Go.Ab
open Go.RowKit
inductive DV where
 |int (k:IntKind) (n:Int)
 |bool (b:Bool)
 |str (s:List UInt8)
 |sl (rows:List (List DV))
 |ptr (row:List DV)
 |G4
inductive AV where
 |d (x:DV)
 |Ae
 |own (t e size:Nat) (rows:List (List DV))
 |clip (rows:List (List DV))
 |agg (cs:List AV)
 |lp (k off:Nat)
 |gp (i off:Nat)
 |ep (row:List DV) (off:Nat)
 |G4
 |ms (i n s e:Nat)
 |mv (i off n s e:Nat)
 |bp (t e:Nat) (s:List UInt8)
 |H0
 |om (t:Nat) (es:List (Int×Int))
 |fn (f:FuncId) (first caps:List AV)
 |tup (vs:List AV)
 |undef
def AV.B8:AV->Bool
 | .agg _| .lp _ _| .tup _| .undef=>false
 |_=>true
def AV.cells:AV->List AV
 | .agg cs=>cs
 |v=>[v]
structure AI where
 blk:Nat->Option (List AV)
 tok:Nat->Bool
 gt:Nat->Option (Array Value)
 bt:Nat->Option (Nat×TypeId)
structure Gh where
 im:Nat->Nat->Option Value
 mu:Nat->Option Nat
 tau:Nat->Option (Value×TypeId×Nat)
 rm:Nat->Option (Nat×TypeId)
structure Gh.le (g g':Gh):Prop where
 im:∀b o v,g.im b o=some v->g'.im b o=some v
 mu:∀i b,g.mu i=some b->g'.mu i=some b
 tau:∀t x,g.tau t=some x->g'.tau t=some x
 rm:∀i n,g.rm i=some n->g'.rm i=some n
theorem Gh.le_refl (g:Gh):g.le g:=⟨fun _ _ _ h=>h,fun _ _ h=>h,fun _ _ h=>h,fun _ _ h=>h⟩
theorem Gh.le_trans {a b c:Gh} (h:a.le b) (k:b.le c):a.le c:=
 ⟨fun _ _ _ x=>k.im _ _ _ (h.im _ _ _ x),fun _ _ x=>k.mu _ _ (h.mu _ _ x),fun _ _ x=>k.tau _ _ (h.tau _ _ x),fun _ _ x=>k.rm _ _ (h.rm _ _ x)⟩
inductive RD (im:Nat->Nat->Option Value):DV->Value->Prop
 |int {k:IntKind} {n:Int} (h:k.has n):RD im (.int k n) (.int k n)
 |bool {b:Bool}:RD im (.bool b) (.bool b)
 |str {s:List UInt8} (h:s.length<=maxLen):RD im (.str s) (.string ⟨s.toArray⟩)
 |nil {a:Option Addr} {cap:Nat} (hm:cap<=maxLen) (h:a=none->cap=0):RD im (.sl []) (.slice a 0 cap)
 |sl {rows:List (List DV)} {b off cap size:Nat} {f:Nat->Nat->Value} (hc:rows.length<=cap) (hm:cap<=maxLen)
  (hs:∀r∈rows,r.length=size)
  (hi:∀i j,i < rows.length->j < size->im b (off+i * size+j)=some (f i j))
  (hr:∀(i:Nat) (r:List DV) (j:Nat) (x:DV),rows[i]?=some r->r[j]?=some x->RD im x (f i j)):
  RD im (.sl rows) (.slice (some ⟨b,off,none⟩) rows.length cap)
 |ptr {row:List DV} {b o:Nat} {f:Nat->Value} (hi:∀j,j < row.length->im b (o+j)=some (f j))
  (hr:∀(j:Nat) (x:DV),row[j]?=some x->RD im x (f j)):RD im (.ptr row) (.pointer (some ⟨b,o,none⟩))
 |G4:RD im .G4 (.pointer none)
theorem RD.mono {im im':Nat->Nat->Option Value} (h:∀b o v,im b o=some v->im' b o=some v) {x:DV} {v:Value} (hx:RD im x v):RD im' x v:=by
 induction hx with
 |int h=>exact .int h
 |bool=>exact .bool
 |str h=>exact .str h
 |nil hm h=>exact .nil hm h
 |sl hc hm hs hi hr ih=>exact .sl hc hm hs (fun i j a b=>h _ _ _ (hi i j a b)) ih
 |ptr hi hr ih=>exact .ptr (fun j hj=>h _ _ _ (hi j hj)) ih
 |G4=>exact .G4
theorem RD.one {im:Nat->Nat->Option Value} {x:DV} {v:Value} (hx:RD im x v):v.oneCell'=true:=by cases hx<;>rfl
def r8 (b:Nat) (es:List (Int×Int)):Value:= .tuple #[.map (some b),.tuple (es.map fun p=>Value.tuple #[.int .i64 p.1,.int .i64 p.2]).toArray]
def AXA:Value->Option (Int×Int)
 | .tuple a=>match a.toList with
  |[.int _ x,.int _ y]=>some (x,y)
  |_=>none
 |_=>none
def ALZ:List Value->List (Int×Int)
 |[]=>[]
 |v::l=>((AXA v).getD (0,0))::ALZ l
def AH6:Value->Option (Nat×List (Int×Int))
 | .tuple a=>match a.toList with
  |[.map (some b),.tuple c]=>some (b,ALZ c.toList)
  |_=>none
 |_=>none
theorem zY:∀es:List (Int×Int),ALZ (es.map fun p=>Value.tuple #[.int .i64 p.1,.int .i64 p.2])=es
 |[]=>rfl
 |p::es=>by rw [AD,ALZ,zY es];rfl
theorem XI (b:Nat) (es:List (Int×Int)):AH6 (r8 b es)=some (b,es):=by
 show some (b,ALZ ((es.map fun p=>Value.tuple #[.int .i64 p.1,.int .i64 p.2]).toArray.toList))=some (b,es);rw [List.toList_toArray,zY]
theorem AL5 {b b':Nat} {es es':List (Int×Int)} (h:r8 b es=r8 b' es'):b=b'/\es=es':=by
 have:=congrArg AH6 h;rw [XI,XI] at this;simpa using this
inductive VR (g:Gh):AV->Value->Prop
 |d {x:DV} {v:Value} (h:RD g.im x v):VR g (.d x) v
 |Ae:VR g .Ae (.slice none 0 0)
 |own {t e size:Nat} {rows:List (List DV)} {v:Value} (h:RD g.im (.sl rows) v) (ht:g.tau t=some (v,e,size)) (hs:∀r∈rows,r.length=size):VR g (.own t e size rows) v
 |clip {rows:List (List DV)} {a:Option Addr} {n:Nat} (h:RD g.im (.sl rows) (.slice a n n)):VR g (.clip rows) (.slice a n n)
 |agg {cs:List AV} {vs:List Value} (hl:vs.length=cs.length) (hc:∀c∈cs,c.B8=true)
  (h:∀(i:Nat) (c:AV) (v:Value),cs[i]?=some c->vs[i]?=some v->VR g c v):VR g (.agg cs) (.agg vs.toArray)
 |gp {i off b:Nat} (h:g.mu i=some b):VR g (.gp i off) (.pointer (some ⟨b,off,none⟩))
 |ep {row:List DV} {off b o:Nat} {f:Nat->Value} (hi:∀j,j < row.length->g.im b (o+j)=some (f j))
  (hr:∀j x,row[j]?=some x->RD g.im x (f j)):VR g (.ep row off) (.pointer (some ⟨b,o+off,none⟩))
 |G4:VR g .G4 (.pointer none)
 |ms {i n s e b cap:Nat} (h:g.mu i=some b) (hr:g.rm i=some (cap * s,e)) (hn:n<=cap) (hm:cap<=maxLen):VR g (.ms i n s e) (.slice (some ⟨b,0,none⟩) n cap)
 |mv {i off n s e b o cap:Nat} (h:g.mu i=some b) (hr:g.rm i=some (cap * s,e)) (hn:off+n<=cap) (hm:cap<=maxLen) (ho:off < cap->o=off * s):VR g (.mv i off n s e) (.slice (some ⟨b,o,none⟩) n (cap - off))
 |bp {t e cap b off:Nat} {s:List UInt8} (ht:g.tau t=some (.slice (some ⟨b,off,none⟩) s.length cap,e,1)) (him:∀(j:Nat) (x:UInt8),s[j]?=some x->g.im b (off+j)=some (.int .u8 x.toNat)):VR g (.bp t e s) (.pointer (some ⟨b,off,none⟩))
 |H0:VR g .H0 .nilFunc
 |om {t b:Nat} {es:List (Int×Int)} (h:g.tau t=some (r8 b es,0,0)):VR g (.om t es) (.map (some b))
 |fn {f:FuncId} {first caps:List AV} {fs cs:List Value} (hl:fs.length=first.length) (hl':cs.length=caps.length)
  (h:∀(i:Nat) (c:AV) (v:Value),first[i]?=some c->fs[i]?=some v->VR g c v)
  (h':∀(i:Nat) (c:AV) (v:Value),caps[i]?=some c->cs[i]?=some v->VR g c v):VR g (.fn f first caps) (.func (.func f) fs.toArray cs.toArray)
 |tup {cs:List AV} {vs:List Value} (hl:vs.length=cs.length)
  (h:∀(i:Nat) (c:AV) (v:Value),cs[i]?=some c->vs[i]?=some v->VR g c v):VR g (.tup cs) (.tuple vs.toArray)
 |undef {v:Value}:VR g .undef v
theorem VR.mono {g g':Gh} (hg:g.le g') {x:AV} {v:Value} (hx:VR g x v):VR g' x v:=by
 induction hx with
 |d h=>exact .d (h.mono hg.im)
 |Ae=>exact .Ae
 |own h ht hs=>exact .own (h.mono hg.im) (hg.tau _ _ ht) hs
 |clip h=>exact .clip (h.mono hg.im)
 |agg hl hc _ ih=>exact .agg hl hc ih
 |gp h=>exact .gp (hg.mu _ _ h)
 |ep hi hr=>exact .ep (fun j hj=>hg.im _ _ _ (hi j hj)) (fun j x hx=>(hr j x hx).mono hg.im)
 |G4=>exact .G4
 |ms h hr hn hm=>exact .ms (hg.mu _ _ h) (hg.rm _ _ hr) hn hm
 |mv h hr hn hm ho=>exact .mv (hg.mu _ _ h) (hg.rm _ _ hr) hn hm ho
 |bp ht him=>exact .bp (hg.tau _ _ ht) (fun j x hx=>hg.im _ _ _ (him j x hx))
 |H0=>exact .H0
 |om h=>exact .om (hg.tau _ _ h)
 |fn hl hl' _ _ ih ih'=>exact .fn hl hl' ih ih'
 |tup hl _ ih=>exact .tup hl ih
 |undef=>exact .undef
theorem VR.one {g:Gh} {x:AV} {v:Value} (hc:x.B8=true) (hx:VR g x v):v.oneCell'=true:=by
 cases hx with
 |d h=>exact h.one
 |own h _ _=>exact h.one
 |agg=>cases hc
 |tup=>cases hc
 |undef=>cases hc
 |_=>rfl
inductive VRs (g:Gh):List AV->List Value->Prop
 |nil:VRs g [] []
 |cons {c:AV} {v:Value} {cs:List AV} {vs:List Value} (h:VR g c v) (hs:VRs g cs vs):VRs g (c::cs) (v::vs)
theorem VRs.mono {g g':Gh} (hg:g.le g') {cs:List AV} {vs:List Value} (h:VRs g cs vs):VRs g' cs vs:=by
 induction h with
 |nil=>exact .nil
 |cons h _ ih=>exact .cons (h.mono hg) ih
theorem VRs.length {g:Gh} {cs:List AV} {vs:List Value} (h:VRs g cs vs):vs.length=cs.length:=by
 induction h with
 |nil=>rfl
 |cons _ _ ih=>simp [ih]
theorem VRs.at {g:Gh} {cs:List AV} {vs:List Value} (h:VRs g cs vs):∀(i:Nat) (c:AV),cs[i]?=some c->∃v,vs[i]?=some v/\VR g c v:=by
 induction h with
 |nil=>intro i c hi;simp at hi
 |cons h _ ih=>
  intro i c hi;cases i with
  |zero=>simp at hi;subst hi;exact ⟨_,rfl,h⟩
  |succ i=>simpa using ih i c (by simpa using hi)
theorem VRs.Sm {g:Gh}:∀(cs:List AV) (vs:List Value),vs.length=cs.length->(∀(i:Nat) (c:AV) (v:Value),cs[i]?=some c->vs[i]?=some v->VR g c v)->VRs g cs vs
 |[],[],_,_=>.nil
 |[],_::_,h,_=>by simp at h
 |_::_,[],h,_=>by simp at h
 |c::cs,v::vs,h,k=>.cons (k 0 c v rfl rfl) (VRs.Sm cs vs (by simpa using h) fun i c v hc hv=>k (i+1) c v (by simpa using hc) (by simpa using hv))
theorem VRs.idx {g:Gh} {cs:List AV} {vs:List Value} (h:VRs g cs vs) (i:Nat) (c:AV) (v:Value) (hc:cs[i]?=some c) (hv:vs[i]?=some v):VR g c v:=by
 obtain ⟨u,hu,hr⟩:=h.at i c hc;rw [hu] at hv;cases hv;exact hr
theorem VRs.append {g:Gh} {cs ds:List AV} {vs us:List Value} (h:VRs g cs vs) (k:VRs g ds us):VRs g (cs++ds) (vs++us):=by
 induction h with
 |nil=>exact k
 |cons h _ ih=>exact .cons h ih
theorem VRs.take {g:Gh} {cs:List AV} {vs:List Value} (h:VRs g cs vs) (n:Nat):VRs g (cs.take n) (vs.take n):=by
 induction h generalizing n with
 |nil=>simpa using .nil
 |cons h _ ih=>cases n with
  |zero=>simpa using .nil
  |succ n=>simpa using .cons h (ih n)
theorem VRs.drop {g:Gh} {cs:List AV} {vs:List Value} (h:VRs g cs vs) (n:Nat):VRs g (cs.drop n) (vs.drop n):=by
 induction h generalizing n with
 |nil=>simpa using .nil
 |cons h hs ih=>cases n with
  |zero=>simpa using .cons h hs
  |succ n=>simpa using ih n
def Aw (cs:List AV):Bool:=cs.all AV.B8
theorem VRs.AWK {g:Gh} {cs:List AV} {vs:List Value} (h:VRs g cs vs) (hc:Aw cs=true):∀v∈vs,v.oneCell'=true:=by
 induction h with
 |nil=>intro v hv;cases hv
 |cons h _ ih=>
  simp only [Aw,Bk,AO] at hc;intro v hv;cases hv with
  |head=>exact h.one hc.1
  |tail _ hv=>exact ih hc.2 v hv
theorem VR.cells {g:Gh} {x:AV} {v:Value} (h:VR g x v) (hc:Aw x.cells=true):VRs g x.cells v.cells.toList:=by
 cases h with
 |agg hl _ h=>exact VRs.Sm _ _ (by simpa [Value.cells,AV.cells] using hl) (by simpa [Value.cells,AV.cells] using h)
 |tup=>simp [AV.cells,Aw,AV.B8] at hc
 |undef=>simp [AV.cells,Aw,AV.B8] at hc
 |d h=>
  have:=h.one;cases v<;>first|(cases h;done)|exact .cons (.d h) .nil
 |own h ht hs=>
  cases h with
  |nil a b=>exact .cons (.own (.nil a b) ht hs) .nil
  |sl a b c e f=>exact .cons (.own (.sl a b c e f) ht hs) .nil
 |Ae=>exact .cons .Ae .nil
 |clip h=>exact .cons (.clip h) .nil
 |gp h=>exact .cons (.gp h) .nil
 |ep h k=>exact .cons (.ep h k) .nil
 |G4=>exact .cons .G4 .nil
 |ms h hr k hm=>exact .cons (.ms h hr k hm) .nil
 |mv h hr k hm ho=>exact .cons (.mv h hr k hm ho) .nil
 |bp h k=>exact .cons (.bp h k) .nil
 |H0=>exact .cons .H0 .nil
 |om h=>exact .cons (.om h) .nil
 |fn a b c e=>exact .cons (.fn a b c e) .nil
def eI (es:List (Int×Int)) (ents:Array MapEntry):Prop:=ents.toList.map (fun m=>(m.key,m.val))=es.map fun p=>(Value.int .i64 p.1,Value.int .i64 p.2)
def Z1 (v:Value):Option Nat:=match AH6 v with
 |some x=>some x.1
 |none=>v.ownBlock
def Rm (w:World) (base:Nat) (e:TypeId) (size:Nat) (v:Value) (n:Nat) (xs:List Value):Prop:=match AH6 v with
 |some x=>base<=x.1/\∃ents clock,w.heap[x.1]?=some (.map ents clock)/\eI x.2 ents
 |none=>w.ownsRow base e size v n xs
theorem zZ {w:World} {base:Nat} {e:TypeId} {size:Nat} {v:Value} {n:Nat} {xs:List Value} (h:w.ownsRow base e size v n xs):AH6 v=none:=by
 rcases h.2 with ⟨rfl,_⟩|⟨g,cap,cur,rfl,_⟩<;>rfl
theorem pQ {w:World} {base:Nat} {e:TypeId} {size:Nat} {v:Value} {n:Nat} {xs:List Value} (h:w.ownsRow base e size v n xs):Z1 v=v.ownBlock:=by
 unfold Z1;rw [zZ h]
theorem AJ2 {w:World} {base:Nat} {e:TypeId} {size:Nat} {v:Value} {n:Nat} {xs:List Value} (h:w.ownsRow base e size v n xs):Rm w base e size v n xs:=by
 unfold Rm;rw [zZ h];exact h
theorem Rm.slice {w:World} {base:Nat} {e:TypeId} {size:Nat} {a:Option Addr} {m c n:Nat} {xs:List Value} (h:Rm w base e size (.slice a m c) n xs):w.ownsRow base e size (.slice a m c) n xs:=h
theorem Rm.lt {w:World} {base:Nat} {e:TypeId} {size:Nat} {v:Value} {n:Nat} {xs:List Value} (h:Rm w base e size v n xs):∀k,Z1 v=some k->base<=k/\k < w.heap.size:=by
 intro k hk;unfold Rm at h;unfold Z1 at hk;split at h
 . rename_i x hx;rw [hx] at hk;cases hk;obtain ⟨h1,ents,clock,h2,_⟩:=h;exact ⟨h1,(N0.1 h2).1⟩
 . rename_i hx;rw [hx] at hk;exact h.lt k hk
structure AVO (base:Nat) (g:Gh) (Pr:Nat->Prop) (σ:AI) (t:Nat) (w:World):Prop where
 row:∃v e size n xs,g.tau t=some (v,e,size)/\Rm w base e size v n xs/\
  ∀b,Z1 v=some b->(∀o,n * size<=o->g.im b o=none)/\¬Pr b/\(∀i,σ.blk i≠none->g.mu i≠some b)/\
   (∀t' v' e' s',t'≠t->σ.tok t'=true->g.tau t'=some (v',e',s')->Z1 v'≠some b)
structure AVN (base:Nat) (g:Gh) (Pr:Nat->Prop) (rt:Option (Nat×TypeId)) (cs:List AV) (b:Nat) (w:World):Prop where
 ok:Aw cs=true
 row:∃vs ty,w.heap[b]?=some (.cells vs ty (0,0))/\cs.length<=vs.size/\(∀t,rt=some t->vs.size=t.1/\ty=t.2)/\VRs g cs (vs.toList.take cs.length)
 low:base<=b
 im:∀o,g.im b o=none
 pr:¬Pr b
def AI.St (σ:AI) (g:Gh) (base:Nat) (w0:World):Prop:=(∀b vs,σ.gt b=some vs->b < base/\∃ty fr,w0.heap[b]?=some (.cells vs ty fr))/\(∀i x,σ.bt i=some x->g.rm i=some x)
theorem AI.St.mono {σ σ':AI} {g g':Gh} {base:Nat} {w0:World} (h:σ.St g base w0) (hg:g.le g') (h1:σ'.gt=σ.gt) (h2:σ'.bt=σ.bt):σ'.St g' base w0:=
 ⟨fun b vs hv=>h.1 b vs (by rw [<- h1];exact hv),fun i x hx=>hg.rm _ _ (h.2 i x (by rw [<- h2];exact hx))⟩
structure Rel (base:Nat) (g:Gh) (Pr:Nat->Prop) (σ:AI) (w0 w:World):Prop where
 im:∀b o v,g.im b o=some v->w.cell? ⟨b,o,none⟩=some v
 shr:∀i cs,σ.blk i=some cs->∃b,g.mu i=some b/\AVN base g Pr (g.rm i) cs b w
 inj:∀i j b,σ.blk i≠none->σ.blk j≠none->g.mu i=some b->g.mu j=some b->i=j
 tok:∀t,σ.tok t=true->AVO base g Pr σ t w
 pr:∀b,Pr b->b < w.heap.size/\∀o,g.im b o=none
 bel:Below base w0 w
 bs:base<=w.heap.size
 fin:∃n,∀i,n<=i->g.mu i=none/\g.tau i=none/\g.rm i=none
 st:σ.St g base w0
def KP (Pr:Nat->Prop) (w w':World):Prop:=w.heap.size<=w'.heap.size/\∀b,Pr b->w'.heap[b]?=w.heap[b]?
theorem KP.refl (Pr:Nat->Prop) (w:World):KP Pr w w:=⟨AW _,fun _ _=>rfl⟩
theorem KP.trans {Pr:Nat->Prop} {a b c:World} (h:KP Pr a b) (k:KP Pr b c):KP Pr a c:=
 ⟨Ap h.1 k.1,fun x hx=>(k.2 x hx).trans (h.2 x hx)⟩
def SV (g:Gh) (lam:Nat->Option Nat):AV->Value->Prop
 | .lp k off,v=>∃b,lam k=some b/\v= .pointer (some ⟨b,off,none⟩)
 |x,v=>VR g x v
theorem SV.Fk {g:Gh} {lam:Nat->Option Nat} {x:AV} {v:Value} (h:VR g x v):SV g lam x v:=by
 cases x<;>first|exact h|(cases h;done)
def AV.BE:AV->Bool
 | .lp _ _=>false
 |_=>true
theorem SV.vr {g:Gh} {lam:Nat->Option Nat} {x:AV} {v:Value} (hn:x.BE=true) (h:SV g lam x v):VR g x v:=by
 cases x<;>first|exact h|(cases hn;done)
abbrev Fm:=Nat->AV
abbrev Lm:=Nat->Option (List AV)
structure Bv (base:Nat) (g:Gh) (lam:Nat->Option Nat) (Pr:Nat->Prop) (N:Nat) (F:Fm) (L:Lm) (σ:AI) (a:Act) (w0 w:World):Prop where
 tm:∀s,SV g lam (F s) (a.tmps.getD s Cu)
 sz:a.tmps.size=N
 df:a.defers=[]
 loc:∀k cs,L k=some cs->Aw cs=true/\∃b vs ty,lam k=some b/\base<=b/\w.heap[b]?=some (.cells vs ty (0,0))/\VRs g cs vs.toList
 inj:∀k k' b,lam k=some b->lam k'=some b->k=k'
 npr:∀k b,lam k=some b->¬Pr b
 rel:Rel base g (fun b=>Pr b\/∃k,lam k=some b) σ w0 w
def AT (P:Program) (f:FuncId) (args:List AV) (σ:AI) (Q:AV->AI->Prop):Prop:=
 ∀(base:Nat) (g:Gh) (Pr:Nat->Prop) (w0 w:World) (vs:List Value),Rel base g Pr σ w0 w->VRs g args vs->
  Calls P f vs.toArray w fun e w'=>∃v av g' σ',e= .returned v/\VR g' av v/\Rel base g' Pr σ' w0 w'/\g.le g'/\KP Pr w w'/\Q av σ'
theorem AT.mono {P:Program} {f:FuncId} {args:List AV} {σ:AI} {Q Q':AV->AI->Prop} (h:AT P f args σ Q) (hq:∀v σ',Q v σ'->Q' v σ'):AT P f args σ Q':=
 fun base g Pr w0 w vs hr hv=>(h base g Pr w0 w vs hr hv).mono fun _ _ ⟨v,av,g',σ',a,b,c,d,e,q⟩=>⟨v,av,g',σ',a,b,c,d,e,hq _ _ q⟩
end Go.Ab
namespace Go.Ab
open Go.RowKit
variable {base N:Nat} {g:Gh} {Pr:Nat->Prop} {σ:AI} {w0 w w':World} {lam:Nat->Option Nat} {F:Fm} {L:Lm} {a:Act}
theorem Rel.Xf (h:Rel base g Pr σ w0 w) {b o:Nat} {v:Value} (hi:g.im b o=some v):b < w.heap.size:=
 World.block_lt_of_cell? w ⟨b,o,none⟩ (h.im b o v hi)
theorem Rel.Sy (h:Rel base g Pr σ w0 w) {i:Nat} {cs:List AV} (hi:σ.blk i=some cs) {b:Nat} (hb:g.mu i=some b):b < w.heap.size:=by
 obtain ⟨b',hb',hs⟩:=h.shr i cs hi;rw [hb'] at hb;cases hb;obtain ⟨vs,ty,hv,_,_,_⟩:=hs.row;exact (N0.1 hv).1
theorem xL {e size n:Nat} {v:Value} {xs:List Value} (h:w.ownsRow base e size v n xs) (hb:∀b,v.ownBlock=some b->w'.heap[b]?=w.heap[b]?):w'.ownsRow base e size v n xs:=by
 refine ⟨h.1,?_⟩;rcases h.2 with hn|⟨gg,cap,cur,rfl,hbase,hgg,rest⟩
 . exact .inl hn
 . exact .inr ⟨gg,cap,cur,rfl,hbase,by rw [hb gg rfl];exact hgg,rest⟩
theorem VF {e size n:Nat} {v:Value} {xs:List Value} (h:Rm w base e size v n xs) (hb:∀b,Z1 v=some b->w'.heap[b]?=w.heap[b]?):Rm w' base e size v n xs:=by
 unfold Rm at h ⊢;unfold Z1 at hb;split at h
 . rename_i x hx;rw [hx] at hb;obtain ⟨h1,ents,clock,h2,h3⟩:=h;exact ⟨h1,ents,clock,by rw [hb x.1 rfl];exact h2,h3⟩
 . rename_i hx;rw [hx] at hb;exact xL h hb
theorem Rel.grow (h:Rel base g Pr σ w0 w) (hsz:w.heap.size<=w'.heap.size) (hb:∀b,b < w.heap.size->¬Pr b->w'.heap[b]?=w.heap[b]?)
 (hbel:Below base w w') {Pr':Nat->Prop} (hpr:∀b,Pr' b->b < w'.heap.size/\(Pr b\/w.heap.size<=b)):Rel base g Pr' σ w0 w':=by
 have him:∀b o v,g.im b o=some v->¬Pr b:=fun b o v hi hp=>by rw [(h.pr b hp).2 o] at hi;cases hi
 refine ⟨fun b o v hi=>?_,fun i cs hi=>?_,h.inj,fun t ht=>?_,fun b hp=>?_,h.bel.trans hbel,Ap h.bs hsz,h.fin,h.st⟩
 . rw [World.cell?_of_block (w:=w) (hb b (h.Xf hi) (him b o v hi))];exact h.im b o v hi
 . obtain ⟨b,hm,ho⟩:=h.shr i cs hi;obtain ⟨vs,ty,hv,hl,ht,hr⟩:=ho.row;have hlt:b < w.heap.size:=(N0.1 hv).1;refine ⟨b,hm,ho.ok,⟨vs,ty,by rw [hb b hlt ho.pr];exact hv,hl,ht,hr⟩,ho.low,ho.im,fun hp=>?_⟩;rcases (hpr b hp).2 with hp|hp
   . exact ho.pr hp
   . omega
 . obtain ⟨v,e,size,n,xs,hm,hown,hrest⟩:=(h.tok t ht).row;refine ⟨v,e,size,n,xs,hm,VF hown fun b hvb=>hb b (hown.lt b hvb).2 (hrest b hvb).2.1,fun b hvb=>?_⟩;obtain ⟨h1,h2,h3,h4⟩:=hrest b hvb;refine ⟨h1,fun hp=>?_,h3,h4⟩;rcases (hpr b hp).2 with hp|hp
   . exact h2 hp
   . have:=(hown.lt b hvb).2;omega
 . refine ⟨(hpr b hp).1,fun o=>?_⟩;rcases (hpr b hp).2 with hp|hp
   . exact (h.pr b hp).2 o
   . cases hi:g.im b o with
     |none=>rfl
     |some v=>have:=h.Xf hi;omega
def Gh.settle (g:Gh) (b n:Nat) (vs:Array Value):Gh:=
 { g with im:=fun b' o=>if b'=b then (if o < n then vs[o]? else none) else g.im b' o}
theorem Rel.Yj (h:Rel base g Pr σ w0 w) (b n:Nat) (vs:Array Value) (hb:w.heap.size<=b):g.le (g.settle b n vs):=by
 refine ⟨fun b' o v hi=>?_,fun _ _ h=>h,fun _ _ h=>h,fun _ _ h=>h⟩;have:b'≠b:=fun e=>by have:=h.Xf hi;omega
 simp [Gh.settle,this,hi]
theorem Rel.settle (h:Rel base g Pr σ w0 w) {b n:Nat} {vs:Array Value} (hb:w.heap.size<=b) (h':Rel base g Pr σ w0 w') (hc:∀o,w'.cell? ⟨b,o,none⟩=vs[o]?):Rel base (g.settle b n vs) Pr σ w0 w':=by
 have hle:=h.Yj b n vs hb;refine ⟨fun b' o v hi=>?_,fun i cs hi=>?_,h.inj,fun t ht=>?_,fun b' hp=>?_,h'.bel,h'.bs,h.fin,h.st.mono hle rfl rfl⟩
 . by_cases e:b'=b
   . subst e;simp only [Gh.settle,if_true] at hi;split at hi
     . rw [hc];exact hi
     . cases hi
   . simp only [Gh.settle,if_neg e] at hi;exact h'.im b' o v hi
 . obtain ⟨b',hm,ho⟩:=h'.shr i cs hi;have hlt:b' < w.heap.size:=h.Sy hi hm;have hne:b'≠b:=by omega
   obtain ⟨vs',ty,hv,hl,ht,hr⟩:=ho.row;exact ⟨b',hm,ho.ok,⟨vs',ty,hv,hl,ht,hr.mono hle⟩,ho.low,fun o=>by simp [Gh.settle,hne,ho.im o],ho.pr⟩
 . obtain ⟨v,e,size,n',xs,hm,hown,hrest⟩:=(h'.tok t ht).row;refine ⟨v,e,size,n',xs,hm,hown,fun b' hvb=>?_⟩;obtain ⟨h1,h2,h3,h4⟩:=hrest b' hvb;obtain ⟨v2,e2,size2,n2,xs2,hm2,hown2,_⟩:=(h.tok t ht).row;rw [hm] at hm2;cases hm2;have hne:b'≠b:=by have:=(hown2.lt b' hvb).2;omega
   exact ⟨fun o ho=>by simp [Gh.settle,hne,h1 o ho],h2,h3,h4⟩
 . have hne:b'≠b:=fun e=>by have:=(h.pr b' hp).1;omega
   exact ⟨(h'.pr b' hp).1,fun o=>by simp [Gh.settle,hne,(h'.pr b' hp).2 o]⟩
def AI.AP (σ:AI) (i:Nat) (cs:List AV):AI:= { σ with blk:=fun j=>if j=i then some cs else σ.blk j}
def AI.E1 (σ:AI) (i:Nat):AI:= { σ with blk:=fun j=>if j=i then none else σ.blk j}
def AI.Cw (σ:AI) (t:Nat):AI:= { σ with tok:=fun j=>if j=t then true else σ.tok j}
def AI.Eo (σ:AI) (t:Nat):AI:= { σ with tok:=fun j=>if j=t then false else σ.tok j}
def AI.CH (σ:AI) (i:Nat) (x:Nat×TypeId):AI:= { σ with bt:=fun j=>if j=i then some x else σ.bt j}
structure AI.le (σ' σ:AI):Prop where
 blk:∀i cs,σ'.blk i=some cs->σ.blk i=some cs
 tok:∀t,σ'.tok t=true->σ.tok t=true
 gt:σ'.gt=σ.gt
 bt:∀i x,σ'.bt i=some x->σ.bt i=some x
theorem AI.le_refl (σ:AI):σ.le σ:=⟨fun _ _ h=>h,fun _ h=>h,rfl,fun _ _ h=>h⟩
theorem Rel.less (h:Rel base g Pr σ w0 w) {σ':AI} (hl:σ'.le σ):Rel base g Pr σ' w0 w:=by
 have hn:∀i,σ'.blk i≠none->σ.blk i≠none:=fun i hi e=>by
  cases hc:σ'.blk i with
  |none=>exact hi hc
  |some cs=>rw [hl.blk i cs hc] at e;cases e
 refine ⟨h.im,fun i cs hi=>h.shr i cs (hl.blk i cs hi),fun i j b hi hj=>h.inj i j b (hn i hi) (hn j hj),fun t ht=>?_,h.pr,h.bel,h.bs,h.fin,⟨fun b vs hv=>h.st.1 b vs (by rw [<- hl.gt];exact hv),fun i x hx=>h.st.2 i x (hl.bt i x hx)⟩⟩;obtain ⟨v,e,size,n,xs,hm,hown,hrest⟩:=(h.tok t (hl.tok t ht)).row;refine ⟨v,e,size,n,xs,hm,hown,fun b hvb=>?_⟩;obtain ⟨h1,h2,h3,h4⟩:=hrest b hvb;exact ⟨h1,h2,fun i hi=>h3 i (hn i hi),fun t' v' e' s' hne ht'=>h4 t' v' e' s' hne (hl.tok t' ht')⟩
theorem Rel.CH (h:Rel base g Pr σ w0 w) {i:Nat} {x:Nat×TypeId} (hx:g.rm i=some x):Rel base g Pr (σ.CH i x) w0 w:=
 ⟨h.im,h.shr,h.inj,fun t ht=>⟨(h.tok t ht).row⟩,h.pr,h.bel,h.bs,h.fin,h.st.1,fun j y hy=>by
   by_cases e:j=i
   . subst e;simp only [AI.CH,if_true,AL] at hy;rw [<- hy];exact hx
   . simp only [AI.CH,if_neg e] at hy;exact h.st.2 j y hy⟩
theorem Rel.fresh (h:Rel base g Pr σ w0 w):∃i,(g.mu i=none/\g.rm i=none)/\g.tau i=none/\σ.blk i=none/\σ.tok i=false:=by
 obtain ⟨n,hn⟩:=h.fin;refine ⟨n,⟨(hn n (AW _)).1,(hn n (AW _)).2.2⟩,(hn n (AW _)).2.1,?_,?_⟩
 . cases hc:σ.blk n with
   |none=>rfl
   |some cs=>obtain ⟨b,hb,_⟩:=h.shr n cs hc;rw [(hn n (AW _)).1] at hb;cases hb
 . cases hc:σ.tok n with
   |false=>rfl
   |true=>obtain ⟨v,e,s,m,xs,hm,_⟩:=(h.tok n hc).row;rw [(hn n (AW _)).2.1] at hm;cases hm
def Gh.share (g:Gh) (i b:Nat) (rt:Option (Nat×TypeId)):Gh:= { g with mu:=fun j=>if j=i then some b else g.mu j,rm:=fun j=>if j=i then rt else g.rm j}
theorem Gh.OI {i b:Nat} {rt:Option (Nat×TypeId)} (hi:g.mu i=none/\g.rm i=none):g.le (g.share i b rt):=
 ⟨fun _ _ _ h=>h,fun j c h=>by have:j≠i:=fun e=>by rw [e,hi.1] at h;cases h
                               simp [Gh.share,this,h],fun _ _ h=>h,
  fun j c h=>by have:j≠i:=fun e=>by rw [e,hi.2] at h;cases h
                simp [Gh.share,this,h]⟩
theorem Rel.yC (h:Rel base g Pr σ w0 w) {i b:Nat} {rt:Option (Nat×TypeId)} (hi:g.mu i=none/\g.rm i=none) (hb:base<=b) (hno:∀j,σ.blk j≠none->g.mu j≠some b) (him:∀o,g.im b o=none)
 (htk:∀t v e s,σ.tok t=true->g.tau t=some (v,e,s)->Z1 v≠some b) {cs:List AV} {vs:Array Value} {ty:TypeId}
 (hv:w.heap[b]?=some (.cells vs ty (0,0))) (hl:cs.length<=vs.size) (hrt:∀t,rt=some t->vs.size=t.1/\ty=t.2) (hr:VRs g cs (vs.toList.take cs.length)) (hok:Aw cs=true) (hpr:¬Pr b):
 Rel base (g.share i b rt) Pr (σ.AP i cs) w0 w:=by
 have hle:=Gh.OI (g:=g) (i:=i) (b:=b) (rt:=rt) hi
 have hne:∀j,σ.blk j≠none->j≠i:=fun j hj e=>by
  subst e;cases hc:σ.blk j with
  |none=>exact hj hc
  |some cs=>obtain ⟨b,hb,_⟩:=h.shr j cs hc;rw [hi.1] at hb;cases hb
 refine ⟨h.im,fun j cs' hj=>?_,fun j k b' hj hk hm hm'=>?_,fun t ht=>?_,h.pr,h.bel,h.bs,?_,h.st.mono hle rfl rfl⟩
 . by_cases e:j=i
   . subst e;simp only [AI.AP,if_true] at hj;cases hj;exact ⟨b,by simp [Gh.share],hok,⟨vs,ty,hv,hl,by simpa [Gh.share] using hrt,hr.mono hle⟩,hb,him,hpr⟩
   . simp only [AI.AP,if_neg e] at hj;obtain ⟨b',hm,ho⟩:=h.shr j cs' hj;obtain ⟨vs',ty',hv',hl',ht',hr'⟩:=ho.row;exact ⟨b',hle.mu _ _ hm,ho.ok,⟨vs',ty',hv',hl',by simpa [Gh.share,e] using ht',hr'.mono hle⟩,ho.low,ho.im,ho.pr⟩
 . by_cases e:j=i<;>by_cases e':k=i
   . omega
   . simp only [AI.AP,if_neg e'] at hk;simp only [Gh.share,if_neg e',if_pos e] at hm hm';cases hm;exact absurd hm' (hno k hk)
   . simp only [AI.AP,if_neg e] at hj;simp only [Gh.share,if_neg e,if_pos e'] at hm hm';cases hm';exact absurd hm (hno j hj)
   . simp only [AI.AP,if_neg e,if_neg e'] at hj hk;simp only [Gh.share,if_neg e,if_neg e'] at hm hm';exact h.inj j k b' hj hk hm hm'
 . obtain ⟨v,e,size,n,xs,hm,hown,hrest⟩:=(h.tok t ht).row;refine ⟨v,e,size,n,xs,hm,hown,fun b' hvb=>?_⟩;obtain ⟨h1,h2,h3,h4⟩:=hrest b' hvb;refine ⟨h1,h2,fun j hj=>?_,h4⟩;by_cases e':j=i
   . subst e';have:b≠b':=fun eb=>htk t v e size ht hm (eb ▸ hvb);simp [Gh.share];exact this
   . simp only [AI.AP,if_neg e'] at hj;simp only [Gh.share,if_neg e'];exact h3 j hj
 . obtain ⟨n,hn⟩:=h.fin;refine ⟨max n (i+1),fun j hj=>⟨?_,(hn j (by omega)).2.1,?_⟩⟩
   . have:j≠i:=by omega
     simp [Gh.share,this,(hn j (by omega)).1]
   . have:j≠i:=by omega
     simp [Gh.share,this,(hn j (by omega)).2.2]
theorem Rel.share (h:Rel base g Pr σ w0 w) {i b:Nat} {rt:Option (Nat×TypeId)} (hi:g.mu i=none/\g.rm i=none) (hb:w.heap.size<=b) (h':Rel base g Pr σ w0 w') {cs:List AV} {vs:Array Value} {ty:TypeId}
 (hv:w'.heap[b]?=some (.cells vs ty (0,0))) (hrt:∀t,rt=some t->vs.size=t.1/\ty=t.2) (hr:VRs g cs vs.toList) (hok:Aw cs=true) (hpr:¬Pr b):Rel base (g.share i b rt) Pr (σ.AP i cs) w0 w':=by
 have hlen:=hr.length;refine h'.yC hi (by have:=h.bs;omega) (fun j hj hm=>?_) (fun o=>?_) (fun t v e s ht hm hvb=>?_) hv (by simp at hlen;omega) hrt (by rw [<- hlen,BR];exact hr) hok hpr
 . cases hc:σ.blk j with
   |none=>exact hj hc
   |some cs=>have:=h.Sy hc hm;omega
 . cases hi':g.im b o with
   |none=>rfl
   |some v=>have:=h.Xf hi';omega
 . obtain ⟨v2,e2,size2,n2,xs2,hm2,hown2,_⟩:=(h.tok t ht).row;rw [hm] at hm2;cases hm2;have:=(hown2.lt b hvb).2;omega
theorem Rel.write (h:Rel base g Pr σ w0 w) {i b:Nat} {cs cs':List AV} (hi:σ.blk i=some cs) (hm:g.mu i=some b) (hsz:w.heap.size<=w'.heap.size)
 (hb:∀k,k < w.heap.size->k≠b->w'.heap[k]?=w.heap[k]?) (hbel:Below base w w') {vs:Array Value} {ty:TypeId}
 (hv:w'.heap[b]?=some (.cells vs ty (0,0))) (hl:cs'.length<=vs.size) (hrt:∀t,g.rm i=some t->vs.size=t.1/\ty=t.2) (hr:VRs g cs' (vs.toList.take cs'.length)) (hok:Aw cs'=true):Rel base g Pr (σ.AP i cs') w0 w':=by
 obtain ⟨b0,hm0,ho0⟩:=h.shr i cs hi;rw [hm] at hm0;cases hm0;have hpr:∀k,Pr k->k≠b:=fun k hk e=>ho0.pr (e ▸ hk)
 have hn:∀j,(σ.AP i cs').blk j≠none->σ.blk j≠none:=fun j hj e=>by
  by_cases e':j=i
  . subst e';rw [hi] at e;cases e
  . simp only [AI.AP,if_neg e'] at hj;exact hj e
 refine ⟨fun b' o v hb'=>?_,fun j cs2 hj=>?_,fun j k b' hj hk=>h.inj j k b' (hn j hj) (hn k hk),fun t ht=>?_,fun k hk=>?_,h.bel.trans hbel,Ap h.bs hsz,h.fin,h.st⟩
 . have hne:b'≠b:=fun e=>by subst e;rw [ho0.im o] at hb';cases hb'
   rw [World.cell?_of_block (w:=w) (hb b' (h.Xf hb') hne)];exact h.im b' o v hb'
 . by_cases e:j=i
   . subst e;simp only [AI.AP,if_true] at hj;cases hj;exact ⟨b,hm,hok,⟨vs,ty,hv,hl,hrt,hr⟩,ho0.low,ho0.im,ho0.pr⟩
   . simp only [AI.AP,if_neg e] at hj;obtain ⟨b',hm',ho⟩:=h.shr j cs2 hj;obtain ⟨vs',ty',hv',hl',ht',hr'⟩:=ho.row;have hne:b'≠b:=fun e'=>e (h.inj j i b (by rw [hj];simp) (by rw [hi];simp) (e' ▸ hm') hm);exact ⟨b',hm',ho.ok,⟨vs',ty',by rw [hb b' (h.Sy hj hm') hne];exact hv',hl',ht',hr'⟩,ho.low,ho.im,ho.pr⟩
 . obtain ⟨v,e,size,n,xs,hmt,hown,hrest⟩:=(h.tok t ht).row;refine ⟨v,e,size,n,xs,hmt,VF hown fun b' hvb=>?_,fun b' hvb=>?_⟩
   . exact hb b' (hown.lt b' hvb).2 fun e'=>(hrest b' hvb).2.2.1 i (by rw [hi];simp) (e' ▸ hm)
   . obtain ⟨h1,h2,h3,h4⟩:=hrest b' hvb;exact ⟨h1,h2,fun j hj=>h3 j (hn j hj),h4⟩
 . exact ⟨by have:=(h.pr k hk).1;omega,(h.pr k hk).2⟩
end Go.Ab
namespace Go.Ab
open Go.RowKit
section
variable {P:Program} (w:World)
theorem FJ (base:Nat) (t ty e:TypeId) (i:TypeInfo) (z:Value) (size bytes:Nat) (ht:P.underlying t=some (.slice e)) (hi:P.info? e=some i) (hz:i.zero=some z)
 (hsize:i.size=size) (hby:i.bytes=bytes) (hzs:z.cells.size=size)
 (v:Value) (n:Nat) (xs:List Value) (hown:w.ownsRow base e size v n xs)
 (a:Addr) (m c:Nat) (news:List Value) (hl:news.length=m * size) (hnews:∀j u,news[j]?=some u->w.cell? (a.add j)=some u) (h1:∀u∈news,u.oneCell'=true)
 (h63:n+m<=maxLen) (hbytes:(n+m) * bytes<=140737488355328) (hbase:base<=w.heap.size):
 ∃v' w',(Builtin.append_ #[t,t] ty #[v,.slice (some a) m c]).run P w= .ok v' w'/\w'.ownsRow base e size v' (n+m) (xs++news)/\w.grownBy w' v'.ownBlock/\
  (∀k,v'.ownBlock=some k->v.ownBlock=some k\/w.heap.size<=k):=by
 subst hsize;subst hby
 have hsmall:n+m<=9223372036854775807:=by simp only [maxLen] at h63;omega
 have hlen:(xs++news).length=(n+m) * i.size:=by rw [AX,hown.1,hl,CK]
 have grown:∀(old:Nat),old < n+m->∀(row:Option Nat),
  (w.drew.alloc (.cells (xs.toArray++news.toArray++Builtin.zeroCells z.cells (grownCap w (n+m) old e - (n+m))) e)).ownsRow base e i.size
    (.slice (some ⟨w.heap.size,0,none⟩) (n+m) (grownCap w (n+m) old e)) (n+m) (xs++news)/\
  w.grownBy (w.drew.alloc (.cells (xs.toArray++news.toArray++Builtin.zeroCells z.cells (grownCap w (n+m) old e - (n+m))) e)) row:=by
  intro old ho row;have hge:=grownCap_ge w (n+m) old e;have hcm:grownCap w (n+m) old e<=maxLen:=grownCap_le_maxLen w (n+m) old e h63;refine ⟨⟨hlen,.inr ⟨w.heap.size,_,_,rfl,hbase,heap_alloc_new w.drew _,hge,hcm,?_,?_⟩⟩,⟨rfl,rfl,rfl,by simp,fun k hk _=>heap_alloc_old w.drew _ k hk⟩⟩
  . simp only [Array.size_append,List.size_toArray,size_zeroCells,hzs,hown.1,hl,<- CK];congr 1;omega
  . simp only [Array.toList_append,Az];rw [<- Az,<- hlen];exact List.take_left
 rcases hown.2 with ⟨rfl,rfl⟩|⟨g,cap,cur,rfl,hbg,hg,hnc,hcm,hcs,htake⟩
 . have hx:xs=[]:=BP (by simpa using hown.1);subst hx;by_cases hm:m=0
   . subst hm;have hn:news=[]:=BP (by simpa using hl);subst hn;refine ⟨.slice none 0 0,w,?_,World.ownsRow_nil w base e i.size,⟨rfl,rfl,rfl,AW _,fun _ _ _=>rfl⟩,by simp [Value.ownBlock]⟩;simp [Builtin.append_,run_underlying ht,sizeOf,typeInfo,hi,Builtin.lenOf,Builtin.firstCells,loadCells,loadCellsFrom]
   . have hr:=run_append_nil (P:=P) w t ty e i z ht hi hz a m c news hl hnews (by omega) (by omega) (by have hb:=hbytes;simp only [BJ] at hb;omega);have hgr:=grown 0 (by omega) (some w.heap.size);simp only [BJ,As,Array.empty_append] at hgr ⊢;exact ⟨_,_,hr,hgr.1,hgr.2,fun k hk=>.inr (by simp [Value.ownBlock] at hk;omega)⟩
 . by_cases hroom:n+m<=cap
   . have hfit:n * i.size+news.length<=cur.size:=by rw [hl,hcs,<- CK];exact Bw _ hroom
     have hr:=run_append_room (P:=P) w t ty e i ht hi g n cap cur hg a m c news hl hnews h1 hroom hfit;refine ⟨_,_,hr,⟨hlen,.inr ⟨g,cap,_,rfl,hbg,setRow_heap w g cur _ e _ hg,hroom,hcm,?_,?_⟩⟩,⟨rfl,rfl,rfl,by simp,fun k _ hk=>setRow_other w g k _ (fun e=>hk (by simp [Value.ownBlock,e]))⟩,fun k hk=>.inl hk⟩
     . simp only [List.size_toArray,AX,B4,Cm,Oy];omega
     . rw [htake,<- hlen];exact List.take_left
   . have holds:∀j u,xs[j]?=some u->w.cell? ((⟨g,0,none⟩:Addr).add j)=some u:=hown.cells (g:=g) rfl;have hr:=run_append_grow (P:=P) w t ty e i z ht hi hz ⟨g,0,none⟩ n cap xs hown.1 holds a m c news hl hnews (by omega) (by omega) (growslice_fits (by omega) hbytes);have hgr:=grown cap (by omega) (some w.heap.size);exact ⟨_,_,hr,hgr.1,hgr.2,fun k hk=>.inr (by simp [Value.ownBlock] at hk;omega)⟩
end
variable {base N:Nat} {g:Gh} {Pr:Nat->Prop} {σ:AI} {w0 w w':World} {lam:Nat->Option Nat} {F:Fm} {L:Lm} {a:Act}
def Gh.grow (g:Gh) (v':Value) (e size t':Nat) (ys:List Value):Gh:=
 { im:=fun b o=>if v'.ownBlock=some b then ys[o]? else g.im b o,mu:=g.mu,tau:=fun t=>if t=t' then some (v',e,size) else g.tau t,rm:=g.rm}
def yU (base:Nat) (g:Gh) (Pr:Nat->Prop) (σ:AI) (w:World) (e size:Nat) (v:Value) (n:Nat) (xs:List Value):Prop:=
 w.ownsRow base e size v n xs/\∀b,v.ownBlock=some b->(∀o,n * size<=o->g.im b o=none)/\¬Pr b/\(∀i,σ.blk i≠none->g.mu i≠some b)/\
  (∀t' v' e' s',σ.tok t'=true->g.tau t'=some (v',e',s')->Z1 v'≠some b)
theorem Rel.wP (h:Rel base g Pr σ w0 w) {e size n t':Nat} {v v':Value} {xs news:List Value} (hmine:yU base g Pr σ w e size v n xs)
 (hwh:∀k,v'.ownBlock=some k->v.ownBlock=some k\/w.heap.size<=k) (ht':g.tau t'=none):g.le (g.grow v' e size t' (xs++news)):=by
 refine ⟨fun b o u hu=>?_,fun _ _ h=>h,fun t x hx=>?_,fun _ _ h=>h⟩
 . simp only [Gh.grow];split
   . rename_i hb;rcases hwh b hb with hvb|hge
     . have hlt:o < n * size:=by
        rcases C7 o (n * size) with h1|h1
        . exact h1
        . rw [(hmine.2 b hvb).1 o h1] at hu;cases hu
       have hxl:o < xs.length:=by rw [hmine.1.1];exact hlt
       have hc:=hmine.1.cells hvb o xs[o] (by simp [hxl]);rw [Addr.add_lit,BJ,h.im b o u hu] at hc;cases hc;simp [BQ hxl,hxl]
     . have:=h.Xf hu;omega
   . exact hu
 . have:t≠t':=fun e=>by rw [e,ht'] at hx;cases hx
   simp [Gh.grow,this,hx]
theorem Rel.AWE (h:Rel base g Pr σ w0 w) {e size n m t':Nat} {v v':Value} {xs news:List Value} (hmine:yU base g Pr σ w e size v n xs)
 (hown':w'.ownsRow base e size v' (n+m) (xs++news)) (hg:w.grownBy w' v'.ownBlock) (hwh:∀k,v'.ownBlock=some k->v.ownBlock=some k\/w.heap.size<=k) (ht':g.tau t'=none):
 Rel base (g.grow v' e size t' (xs++news)) Pr (σ.Cw t') w0 w':=by
 have hle:=h.wP (news:=news) hmine hwh ht'
 have hnot:∀b,v'.ownBlock=some b->¬Pr b/\(∀i,σ.blk i≠none->g.mu i≠some b)/\(∀t2 v2 e2 s2,σ.tok t2=true->g.tau t2=some (v2,e2,s2)->Z1 v2≠some b):=by
  intro b hb;rcases hwh b hb with hvb|hge
  . exact (hmine.2 b hvb).2
  . refine ⟨fun hp=>?_,fun i hi hm=>?_,fun t2 v2 e2 s2 ht2 hm2 hb2=>?_⟩
    . have:=(h.pr b hp).1;omega
    . cases hc:σ.blk i with
      |none=>exact hi hc
      |some cs=>have:=h.Sy hc hm;omega
    . obtain ⟨v3,e3,s3,n3,xs3,hm3,hown3,_⟩:=(h.tok t2 ht2).row;rw [hm2] at hm3;cases hm3;have:=(hown3.lt b hb2).2;omega
 have hsame:∀b,b < w.heap.size->v'.ownBlock≠some b->w'.heap[b]?=w.heap[b]?:=fun b hb hne=>hg.block b hb (A9 hne);have hbel:Below base w w':=⟨hg.os,hg.tape,hg.output,hg.size,fun k hk=>hsame k (by have:=h.bs;omega) fun e=>by have:=(hown'.lt k e).1;omega⟩;refine ⟨fun b o u hu=>?_,fun i cs hi=>?_,h.inj,fun t ht=>?_,fun b hp=>?_,h.bel.trans hbel,Ap h.bs hg.size,?_,h.st.mono hle rfl rfl⟩
 . simp only [Gh.grow] at hu;split at hu
   . rename_i hb;have:=hown'.cells hb o u hu
     rwa [Addr.add_lit,BJ] at this
   . rename_i hb;rw [World.cell?_of_block (w:=w) (hsame b (h.Xf hu) hb)];exact h.im b o u hu
 . have hi:σ.blk i=some cs:=hi;obtain ⟨b,hm,ho⟩:=h.shr i cs hi;obtain ⟨vs,ty,hv,hl,ht,hr⟩:=ho.row;have hb:v'.ownBlock≠some b:=fun e=>(hnot b e).2.1 i (by rw [hi];simp) hm;refine ⟨b,hm,ho.ok,⟨vs,ty,by rw [hsame b (h.Sy hi hm) hb];exact hv,hl,ht,hr.mono hle⟩,ho.low,fun o=>?_,ho.pr⟩;simp [Gh.grow,hb,ho.im o]
 . by_cases e':t=t'
   . subst e';refine ⟨v',e,size,n+m,xs++news,by simp [Gh.grow],AJ2 hown',fun b hb=>?_⟩;rw [pQ hown'] at hb;refine ⟨fun o ho=>?_,(hnot b hb).1,(hnot b hb).2.1,fun t2 v2 e2 s2 hne ht2 hm2=>?_⟩
     . simp only [Gh.grow,hb,if_true];rw [List.getElem?_eq_none_iff,hown'.1];exact ho
     . simp only [AI.Cw,if_neg hne] at ht2;simp only [Gh.grow,if_neg hne] at hm2;exact (hnot b hb).2.2 t2 v2 e2 s2 ht2 hm2
   . simp only [AI.Cw,if_neg e'] at ht;obtain ⟨v2,e2,s2,n2,xs2,hm2,hown2,hrest⟩:=(h.tok t ht).row;have hdiff:∀b,Z1 v2=some b->v'.ownBlock≠some b:=fun b hb e=>(hnot b e).2.2 t v2 e2 s2 ht hm2 hb;refine ⟨v2,e2,s2,n2,xs2,by simp [Gh.grow,e',hm2],VF hown2 fun b hb=>hsame b (hown2.lt b hb).2 (hdiff b hb),fun b hb=>?_⟩;obtain ⟨k1,k2,k3,k4⟩:=hrest b hb;refine ⟨fun o ho=>by simp [Gh.grow,hdiff b hb,k1 o ho],k2,k3,fun t3 v3 e3 s3 hne ht3 hm3=>?_⟩;by_cases e3':t3=t'
     . subst e3';simp only [Gh.grow,if_true] at hm3;cases hm3;rw [pQ hown'];exact hdiff b hb
     . simp only [AI.Cw,if_neg e3'] at ht3;simp only [Gh.grow,if_neg e3'] at hm3;exact k4 t3 v3 e3 s3 hne ht3 hm3
 . have hb:v'.ownBlock≠some b:=fun e=>(hnot b e).1 hp;exact ⟨CV (h.pr b hp).1 hg.size,fun o=>by simp [Gh.grow,hb,(h.pr b hp).2 o]⟩
 . obtain ⟨k,hk⟩:=h.fin;refine ⟨max k (t'+1),fun i hi=>⟨(hk i (by omega)).1,?_,(hk i (by omega)).2.2⟩⟩;have:i≠t':=by omega
   simp [Gh.grow,this,(hk i (by omega)).2.1]
theorem Rel.AXL (h:Rel base g Pr σ w0 w) {t e size:Nat} {v:Value} (ht:σ.tok t=true) (hm:g.tau t=some (v,e,size)) (hd:AH6 v=none):
 ∃n xs,yU base g Pr (σ.Eo t) w e size v n xs:=by
 obtain ⟨v2,e2,s2,n2,xs2,hm2,hown2,hrest⟩:=(h.tok t ht).row;rw [hm] at hm2;cases hm2;have hown3:w.ownsRow base e size v n2 xs2:=by unfold Rm at hown2;rw [hd] at hown2;exact hown2
 refine ⟨n2,xs2,hown3,fun b hb=>?_⟩;rw [<- pQ hown3] at hb;obtain ⟨k1,k2,k3,k4⟩:=hrest b hb;refine ⟨k1,k2,k3,fun t' v' e' s' ht'=>?_⟩;have hne:t'≠t:=fun e=>by subst e;simp [AI.Eo] at ht'
 simp only [AI.Eo,if_neg hne] at ht';exact k4 t' v' e' s' hne ht'
theorem AI.uB (σ:AI) (t:Nat):(σ.Eo t).le σ:=⟨fun _ _ h=>h,fun t' h=>by
 by_cases e:t'=t
 . subst e;simp [AI.Eo] at h
 . simpa [AI.Eo,e] using h,rfl,fun _ _ h=>h⟩
theorem yU.nil (base:Nat) (g:Gh) (Pr:Nat->Prop) (σ:AI) (w:World) (e size:Nat):yU base g Pr σ w e size (.slice none 0 0) 0 []:=
 ⟨World.ownsRow_nil w base e size,fun b hb=>by simp [Value.ownBlock] at hb⟩
end Go.Ab
namespace Go.Ab
open Go.RowKit
inductive X where
 |t (n:Nat)
 |c (v:AV)
inductive EK where
 |tC (ne:Bool)
 |alt (t:Nat) (z:List AV)
 |y6 (e s:Nat)
 |mmk
 |AEV
 |AJM
inductive O where
 |mv (x:X)
 |pick (c a b:X)
 |fld (x:X) (off:Nat)
 |ld (x:X) (n:Option Nat)
 |ix (x i:X) (size:Nat)
 |AOM (x i:X)
 |len (x:X)
 |AKK (x:X)
 |bin (op:BinOp) (x y:X)
 |ALJ (op:BinOp) (x y:X)
 |un (op:UnOp) (x:X)
 |conv (k:IntKind) (x:X)
 |bld (z:List AV) (parts:List (Nat×Nat×X))
 |bsl (size len:Nat) (z:List AV) (parts:List (Nat×Nat×X))
 |mkf (f:FuncId) (first caps:List X)
 |ext (x:X) (i:Nat)
 |nck (x:X)
 |mm (isMax:Bool) (x y:X)
 |box (x:X) (sh:Bool)
 |al (z:List AV) (sh:Bool)
 |st (x v:X) (n:Nat)
 |msl (e size bytes:Nat) (z:List AV) (l c:X)
 |app (e size bytes:Nat) (s x:X)
 |call (f:FuncId) (args:List X)
 |Zh (x:X) (args:List X)
 |jZ (f:FuncId) (args:List X)
 |ldl (x:X) (n:Option Nat)
 |fd (x:X) (off:Nat) (n:Option Nat)
 |ssl (x:X) (lo hi:Option X)
 |sls (x:X) (lo hi mx:Option X) (size:Nat)
 |AE8 (ne:Bool) (x:X)
 |AFV (ne:Bool) (n:Nat) (x y:X)
 |mm3 (isMax:Bool) (x y z:X)
 |ALK (x:X)
 |rM (e size bytes:Nat) (s x:X)
 |trn (x hi:X)
 |kJ (e size len:Nat) (z:List AV) (parts:List (Nat×Nat×X))
 |ex (k:EK) (xs:List X)
 |iC (m k v:X)
structure Q where
 dst:Option Nat
 o:O
 grd:Option (Nat×Bool)
def xv (F:Fm):X->AV
 | .t n=>F n
 | .c v=>v
def put (d:Nat) (v:AV) (F:Fm):Fm:=fun s=>if s=d then v else F s
def BS (d:Option Nat) (v:AV) (F:Fm):Fm:=match d with|some d=>put d v F|none=>F
def Am (d:Nat) (cs:List AV) (L:Lm):Lm:=fun s=>if s=d then some cs else L s
def AV.dv:AV->Option DV
 | .d x=>some x
 | .Ae=>some (.sl [])
 | .own _ _ _ rows=>some (.sl rows)
 | .clip rows=>some (.sl rows)
 | .G4=>some .G4
 |_=>none
def AV.rows:AV->Option (List (List DV))
 | .d (.sl rows)=>some rows
 | .Ae=>some []
 | .own _ _ _ rows=>some rows
 | .clip rows=>some rows
 |_=>none
def ADZ:AV->Nat->Option AV
 | .lp k o,n=>some (.lp k (o+n))
 | .gp i o,n=>some (.gp i (o+n))
 | .ep r o,n=>some (.ep r (o+n))
 | .d (.ptr r),n=>some (.ep r n)
 |_,_=>none
def AGF (v:AV):Option AV:=if v.B8 then some v else none
theorem aS {v u:AV} (h:AGF v=some u):u=v/\v.B8=true:=by
 unfold AGF at h;split at h
 . cases h;exact ⟨rfl,by assumption⟩
 . cases h
def rdC (cs:List AV) (o:Nat):Option Nat->Option AV
 |none=>(cs[o]?).bind AGF
 |some n=>if o+n<=cs.length then some (.agg ((cs.drop o).take n)) else none
def ldA (L:Lm) (σ:AI):AV->Option Nat->Option AV
 | .lp k o,n=>(L k).bind (rdC · o n)
 | .gp i o,n=>(σ.blk i).bind (rdC · o n)
 | .ep r o,n=>rdC (r.map AV.d) o n
 | .d (.ptr r),n=>rdC (r.map AV.d) 0 n
 |_,_=>none
def xF (L:Lm):AV->Option Nat->Option AV
 | .lp k o,n=>(L k).bind (rdC · o n)
 |_,_=>none
def ixR (rows:List (List DV)) (n:Int) (size:Nat):Option AV:=
 if 0<=n then (rows[n.toNat]?).bind fun r=>if r.length=size then some (.ep r 0) else none else none
def ixA:AV->AV->Nat->Option AV
 | .ms i n _ _,.d (.int _ m),size=>if 0<=m/\m < n then some (.gp i (m.toNat * size)) else none
 | .mv i o n s _,.d (.int _ m),size=>if (0<=m/\m < n)/\s=size then some (.gp i ((o+m.toNat) * size)) else none
 | .d (.sl rows),.d (.int _ m),size=>ixR rows m size
 | .own _ _ _ rows,.d (.int _ m),size=>ixR rows m size
 | .clip rows,.d (.int _ m),size=>ixR rows m size
 |_,_,_=>none
def qN:AV->AV->Option AV
 | .d (.str s),.d (.int _ m)=>if 0<=m then (s[m.toNat]?).map fun b=>.d (.int .u8 b.toNat) else none
 |_,_=>none
def vI:AV->Option AV
 | .d (.str s)=>some (.d (.int .i64 s.length))
 |_=>none
def Tx:AV->Option AV
 | .d (.sl rows)=>some (.d (.int .i64 rows.length))
 | .Ae=>some (.d (.int .i64 0))
 | .own _ _ _ rows=>some (.d (.int .i64 rows.length))
 | .clip rows=>some (.d (.int .i64 rows.length))
 | .ms _ n _ _=>some (.d (.int .i64 n))
 | .mv _ _ n _ _=>some (.d (.int .i64 n))
 |_=>none
def AIY (op:BinOp) (k:IntKind) (a b:Int):Option AV:=
 match op with
 | .add=>some (.d (.int k (k.wrap (a+b))))
 | .sub=>some (.d (.int k (k.wrap (a - b))))
 | .mul=>some (.d (.int k (k.wrap (a * b))))
 | .quo=>if b=0 then none else some (.d (.int k (k.wrap (a.tdiv b))))
 | .rem=>if b=0 then none else some (.d (.int k (a.tmod b)))
 | .eql=>some (.d (.bool (a==b)))
 | .neq=>some (.d (.bool (a != b)))
 | .lss=>some (.d (.bool (decide (a < b))))
 | .leq=>some (.d (.bool (decide (a<=b))))
 | .gtr=>some (.d (.bool (decide (b < a))))
 | .geq=>some (.d (.bool (decide (b<=a))))
 |_=>none
def AB8 (op:BinOp) (x y:List UInt8):Option AV:=
 match op with
 | .add=>if x.length+y.length<=maxLen then some (.d (.str (x++y))) else none
 | .eql=>some (.d (.bool (x==y)))
 | .neq=>some (.d (.bool (!(x==y))))
 | .lss=>some (.d (.bool (Op.bytesLess x y)))
 | .leq=>some (.d (.bool (Op.bytesLess x y||x==y)))
 | .gtr=>some (.d (.bool (!(Op.bytesLess x y||x==y))))
 | .geq=>some (.d (.bool (!Op.bytesLess x y)))
 |_=>none
def AHR:BinOp->AV->AV->Option AV
 |op,.d (.int k a),.d (.int k' b)=>if k=k' then AIY op k a b else none
 |op,.d (.str a),.d (.str b)=>AB8 op a b
 |_,_,_=>none
def tL:BinOp->AV->AV->Option AV
 | .eql,.d (.bool a),.d (.bool b)=>some (.d (.bool (a==b)))
 | .neq,.d (.bool a),.d (.bool b)=>some (.d (.bool (!(a==b))))
 |_,_,_=>none
def unA:UnOp->AV->Option AV
 | .not,.d (.bool b)=>some (.d (.bool (!b)))
 | .neg,.d (.int k n)=>some (.d (.int k (k.wrap (0 - n))))
 |_,_=>none
def tW:IntKind->AV->Option AV
 |k,.d (.int _ n)=>some (.d (.int k (k.wrap n)))
 |_,_=>none
def AGZ (v:AV):Option AV:=if v.BE then some v else none
theorem pM {v u:AV} (h:AGZ v=some u):u=v/\v.BE=true:=by
 unfold AGZ at h;split at h
 . cases h;exact ⟨rfl,by assumption⟩
 . cases h
def AIE:AV->Nat->Option AV
 | .tup vs,i=>(vs[i]?).bind AGZ
 |_,_=>none
def ANF:AV->Option AV
 | .gp i o=>some (.gp i o)
 | .lp k o=>some (.lp k o)
 | .ep r o=>some (.ep r o)
 | .d (.ptr r)=>some (.d (.ptr r))
 |_=>none
def Xs:AV->Option Nat
 | .d (.int _ n)=>if 0<=n then some n.toNat else none
 |_=>none
def fS (n:Nat) (lo hi:Option AV):Option (Nat×Nat):=
 (match lo with|none=>some 0|some x=>Xs x).bind fun l=>(match hi with|none=>some n|some x=>Xs x).bind fun h=>if l<=h/\h<=n then some (l,h) else none
def YO (x:AV) (lo hi:Option AV):Option AV:=
 match x with
 | .d (.str s)=>(fS s.length lo hi).map fun b=>.d (.str ((s.take b.2).drop b.1))
 |_=>none
def yD (rows:List (List DV)) (size:Nat):Bool:=rows.all fun r=>r.length==size
def yF (rows:List (List DV)) (lo hi mx:Option AV) (size:Nat):Option AV:=
 if lo.isNone||yD rows size then
  (fS rows.length lo hi).bind fun b=>
    match hi,mx with
    |_,none=>some (.d (.sl ((rows.take b.2).drop b.1)))
    |some _,some m=>if Xs m=some b.2 then some (.clip ((rows.take b.2).drop b.1)) else none
    |_,_=>none
           else none
def AKL (x:AV) (lo hi mx:Option AV) (size:Nat):Option AV:=
 match x,lo,hi,mx with
 | .Ae,none,some h,none=>if Xs h=some 0 then some .Ae else none
 | .ms i n s e,some l,none,none=>(Xs l).bind fun l=>if l<=n/\s=size then some (.mv i l (n - l) s e) else none
 | .ms i n s e,none,some h,none=>(Xs h).bind fun h=>if h<=n then some (.ms i h s e) else none
 |x,lo,hi,mx=>(x.rows).bind fun rows=>yF rows lo hi mx size
def u7 (ne:Bool):AV->Option AV
 | .G4=>some (.d (.bool (!ne)))
 | .d .G4=>some (.d (.bool (!ne)))
 | .d (.ptr _)=>some (.d (.bool ne))
 | .gp _ _=>some (.d (.bool ne))
 | .ep _ _=>some (.d (.bool ne))
 | .lp _ _=>some (.d (.bool ne))
 |_=>none
def O1:List AV->List AV->Option Bool
 |[],[]=>some true
 | .d (.int k a)::l,.d (.int k' b)::m=>if k=k' then (O1 l m).map fun r=>a==b&&r else none
 |_,_=>none
def vJ (ne:Bool) (n:Nat):AV->AV->Option AV
 | .agg l,.agg m=>if l.length=n then (O1 l m).map (fun r=>.d (.bool (if ne then !r else r))) else none
 |_,_=>none
def fdA:AV->Nat->Option Nat->Option AV
 | .agg cs,off,n=>rdC cs off n
 |_,_,_=>none
def mmA (isMax:Bool):AV->AV->Option AV
 | .d (.int k a),.d (.int k' b)=>if k=k' then some (.d (.int k (if isMax then (if b>a then b else a) else (if b < a then b else a)))) else none
 |_,_=>none
def Ko (z:List AV) (F:Fm):List (Nat×Nat×X)->Option (List AV)
 |[]=>some z
 |(off,size,x)::rest=>
  let cs:=(xv F x).cells
  if Aw cs&&cs.length==size&&decide (off+size<=z.length) then Ko (z.take off++cs++z.drop (off+size)) F rest else none
def dvs:List AV->Option (List DV)
 |[]=>some []
 |c::cs=>do some ((<- c.dv)::(<- dvs cs))
def chunk (size:Nat):Nat->List DV->List (List DV)
 |0,_=>[]
 |n+1,l=>l.take size::chunk size n (l.drop size)
def xvs (F:Fm) (l:List X):List AV:=l.map (xv F)
def ABE:AV->AV->AV->Option AV
 | .d (.bool c),a,b=>some (if c then a else b)
 |_,_,_=>none
def EK.pure (_:EK):Bool:=false
def AL9 (_:EK) (_:List AV):Option AV:=none
def exP (k:EK) (args:List AV):Option AV:=if args.all AV.BE then AL9 k args else none
def xJ:AV->Option Bool
 | .Ae=>some true
 | .d (.sl (_::_))| .own _ _ _ (_::_)| .clip (_::_)=>some false
 | .ms _ _ _ _| .mv _ _ _ _ _=>some false
 |_=>none
def pv (F:Fm) (L:Lm) (σ:AI):O->Option AV
 | .mv x=>some (xv F x)
 | .pick c a b=>ABE (xv F c) (xv F a) (xv F b)
 | .fld x off=>ADZ (xv F x) off
 | .ld x n=>ldA L σ (xv F x) n
 | .ix x i size=>ixA (xv F x) (xv F i) size
 | .AOM x i=>qN (xv F x) (xv F i)
 | .len x=>Tx (xv F x)
 | .AKK x=>vI (xv F x)
 | .bin op x y=>AHR op (xv F x) (xv F y)
 | .ALJ op x y=>tL op (xv F x) (xv F y)
 | .un op x=>unA op (xv F x)
 | .conv k x=>tW k (xv F x)
 | .bld z ps=>(Ko z F ps).map .agg
 | .bsl size len z ps=>((Ko z F ps).bind dvs).map fun l=>.d (.sl (chunk size len l))
 | .mkf f first caps=>if (xvs F first++xvs F caps).all AV.BE then some (.fn f (xvs F first) (xvs F caps)) else none
 | .ext x i=>AIE (xv F x) i
 | .nck x=>ANF (xv F x)
 | .mm b x y=>mmA b (xv F x) (xv F y)
 | .ldl x n=>xF L (xv F x) n
 | .fd x off n=>fdA (xv F x) off n
 | .ssl x lo hi=>YO (xv F x) (lo.map (xv F)) (hi.map (xv F))
 | .sls x lo hi mx size=>AKL (xv F x) (lo.map (xv F)) (hi.map (xv F)) (mx.map (xv F)) size
 | .AE8 ne x=>u7 ne (xv F x)
 | .AFV ne n x y=>vJ ne n (xv F x) (xv F y)
 | .mm3 b x y z=>(mmA b (xv F x) (xv F y)).bind fun v=>mmA b v (xv F z)
 | .ALK x=>(dvs (xv F x).cells).map fun ds=>.d (.ptr ds)
 | .ex k xs=>exP k (xvs F xs)
 |_=>none
def cv:Value->Option AV
 | .bool b=>some (.d (.bool b))
 | .int k n=>if k.min<=n/\n<=k.max then some (.d (.int k n)) else none
 | .string s=>if s.data.toList.length<=maxLen then some (.d (.str s.data.toList)) else none
 | .slice none 0 0=>some .Ae
 | .pointer none=>some .G4
 | .nilFunc=>some .H0
 |_=>none
def xo:Operand->Option X
 | .tmp n=>some (.t n)
 | .const v=>some (.c ((cv v).getD .undef))
 | .func f=>some (.c (.fn f [] []))
 | .global _=>none
def xos:List Operand->Option (List X)
 |[]=>some []
 |x::l=>do some ((<- xo x)::(<- xos l))
def cvs:List Value->Option (List AV)
 |[]=>some []
 |v::l=>do some ((<- cv v)::(<- cvs l))
def Vn (P:Program) (t:TypeId):Option (List AV):=do
 let i <- P.info? t
 let z <- i.zero
 cvs z.cells.toList
def szT (P:Program) (t:TypeId):Option Nat:=(P.info? t).map (·.size)
def ldN (P:Program) (t:TypeId):Option (Option Nat):=
 match P.underlying t with
 |some (.struct _)|some (.array _ _)=>(szT P t).map some
 |some _=>some none
 |none=>none
def AIH (P:Program) (s:TypeId) (f:Nat):Option Nat:=
 match P.underlying s with
 |some (.struct fs)=>(fs[f]?).bind fun fd=>(szT P fd.type).bind fun n=>if n=0 then none else some fd.offset
 |_=>none
def T3 (P:Program) (t:TypeId):Option TypeId:=
 match P.underlying t with
 |some (.slice e)=>some e
 |_=>none
def AE5 (P:Program) (t:TypeId):Option (Nat->Option (Nat×Nat)):=
 match P.underlying t with
 |some (.struct fs)=>(fs.toList.mapM fun f=>(P.info? f.type).map fun i=>(f.offset,i.size)).map fun ps i=>ps.toArray[i]?
 |some (.array _ e)=>(P.info? e).map fun ie i=>some (i * ie.size,ie.size)
 |_=>none
def VG (pl:Nat->Option (Nat×Nat)):List (Nat×Operand)->Option (List (Nat×Nat×X))
 |[]=>some []
 |(i,x)::l=>do
  let (off,n) <- pl i
  let x <- xo x
  some ((off,n,x)::(<- VG pl l))
def xoo:Option Operand->Option (Option X)
 |none=>some none
 |some y=>(xo y).map some
def AEK (P:Program) (t:TypeId):Bool:=match P.underlying t with|some (.int _)=>true|_=>false
def AN0 (op:BinOp) (x y:Operand):Option O:=
 match op,y with
 | .eql,.const (.pointer none)=>(xo x).map (.AE8 false ·)
 | .neq,.const (.pointer none)=>(xo x).map (.AE8 true ·)
 |_,_=>none
theorem pT {op:BinOp} {x y:Operand} {c:O} (h:AN0 op x y=some c):y= .const (.pointer none)/\∃ne x',op=(if ne then .neq else .eql)/\xo x=some x'/\c= .AE8 ne x':=by
 unfold AN0 at h;split at h
 . simp only [AN] at h;obtain ⟨x',hx,rfl⟩:=h;exact ⟨rfl,false,x',rfl,hx,rfl⟩
 . simp only [AN] at h;obtain ⟨x',hx,rfl⟩:=h;exact ⟨rfl,true,x',rfl,hx,rfl⟩
 . cases h
def ATZ (P:Program) (s:TypeId) (f:Nat):Option (Option Nat):=
 match P.underlying s with
 |some (.struct fs)=>(fs[f]?).bind fun fd=>ldN P fd.type
 |_=>none
def vK (op:BinOp) (n:Nat) (x y:Operand):Option O:=
 match op with
 | .eql=>(xo x).bind fun a=>(xo y).map (.AFV false n a ·)
 | .neq=>(xo x).bind fun a=>(xo y).map (.AFV true n a ·)
 |_=>none
theorem qU {op:BinOp} {n:Nat} {x y:Operand} {c:O} (h:vK op n x y=some c):∃ne x' y',op=(if ne then .neq else .eql)/\xo x=some x'/\xo y=some y'/\c= .AFV ne n x' y':=by
 unfold vK at h;split at h
 . simp only [AB,AN] at h;obtain ⟨x',hx,y',hy,rfl⟩:=h;exact ⟨false,x',y',rfl,hx,hy,rfl⟩
 . simp only [AB,AN] at h;obtain ⟨x',hx,y',hy,rfl⟩:=h;exact ⟨true,x',y',rfl,hx,hy,rfl⟩
 . cases h
def AUS (P:Program) (e:TypeId) (x:Operand) (lo hi mx:Option Operand):Option O:=
 match lo,hi,mx with
 |none,some h,none=>(xo x).bind fun a=>(xo h).bind fun b=>(szT P e).map fun _=>.trn a b
 |_,_,_=>none
theorem vN {P:Program} {e:TypeId} {x:Operand} {lo hi mx:Option Operand} {c:O} (h:AUS P e x lo hi mx=some c):
 lo=none/\∃z,hi=some z/\mx=none/\∃a b sz,xo x=some a/\xo z=some b/\szT P e=some sz/\c= .trn a b:=by
 unfold AUS at h;split at h
 . simp only [AB,AN] at h;obtain ⟨a,ha,b,hb,sz,hsz,rfl⟩:=h;exact ⟨rfl,_,rfl,rfl,a,b,sz,ha,hb,hsz,rfl⟩
 . cases h
def To (P:Program) (t:TypeId):Bool:=
 match P.underlying t with
 |some (.struct fs)=>(fs.toList.zipIdx.all fun (f,i)=>f.offset==i&&f.name != "_"&&AEK P f.type)&&szT P t==some fs.size&& !P.stoodInHeld t&& !P.eqGuardType P.depth t
 |_=>false
def ALV (P:Program) (sh:Bool):Builtin->List Operand->List TypeId->Option O
 | .len,[x],[t]=>match P.underlying t with
  |some .string=>(xo x).map .AKK
  |some (.slice _)=>(xo x).map .len
  |_=>none
 | .max,[x,y],_=>do some (.mm true (<- xo x) (<- xo y))
 | .max,[x,y,z],_=>do some (.mm3 true (<- xo x) (<- xo y) (<- xo z))
 | .min,[x,y],_=>do some (.mm false (<- xo x) (<- xo y))
 | .append,[s,x],[t,u]=>do
  let e <- T3 P t
  let i <- P.info? e
  let z <- i.zero
  if t=u/\z.cells.size=i.size/\0 < i.size then (do
   let a <- xo s
   let b <- xo x
   some (if sh then .rM e i.size i.bytes a b else .app e i.size i.bytes a b)) else none
 |_,_,_=>none
def dB (P:Program) (sh:Bool) (c:Call):Option O:=
 match c.callee with
 | .builtin b=>ALV P sh b c.args.toList c.argTypes.toList
 | .value (.func f)=>
  if ((P.funcs[f]?).bind (·.body)).isSome&&((P.funcs[f]?).map (·.name)) != some "runtime.NumGoroutine" then (xos c.args.toList).map (.call f ·) else none
 | .value (.tmp n)=>(xos c.args.toList).map (.Zh (.t n) ·)
 |_=>none
def tT (P:Program) (sh im lc:Bool):Op->Option O
 | .move x| .assign x=>(xo x).map .mv
 | .pick c a b=>do some (.pick (<- xo c) (<- xo a) (<- xo b))
 | .alloc t=>(Vn P t).map (.al · sh)
 | .box _ x=>(xo x).map fun x=>if im then .ALK x else .box x sh
 | .field s x f=>do some (.fd (<- xo x) (<- AIH P s f) (<- ATZ P s f))
 | .slice t x lo hi mx=>match P.underlying t with
  |some .string=>match mx with
   |none=>do some (.ssl (<- xo x) (<- xoo lo) (<- xoo hi))
   |some _=>none
  |some (.slice e)=>if sh then AUS P e x lo hi mx else do some (.sls (<- xo x) (<- xoo lo) (<- xoo hi) (<- xoo mx) (<- szT P e))
  |_=>none
 | .fieldAddr s x f=>do some (.fld (<- xo x) (<- AIH P s f))
 | .load t x=>do
  let a <- xo x
  let n <- ldN P t
  some (if lc then .ldl a n else .ld a n)
 | .store t x v=>do some (.st (<- xo x) (<- xo v) (<- szT P t))
 | .indexAddr t x i=>do some (.ix (<- xo x) (<- xo i) (<- szT P (<- T3 P t)))
 | .index t x i=>match P.underlying t with
  |some .string=>do some (.AOM (<- xo x) (<- xo i))
  |_=>none
 | .binOp op t x y _=>match P.underlying t with
  |some .bool=>do some (.ALJ op (<- xo x) (<- xo y))
  |some (.int _)|some .string=>do some (.bin op (<- xo x) (<- xo y))
  |some (.pointer _)=>AN0 op x y
  |some (.struct fs)=>if To P t then vK op fs.size x y else none
  |_=>none
 | .unOp op _ x=>do some (.un op (<- xo x))
 | .convert s t x=>match P.underlying s,P.underlying t with
  |some (.int _),some (.int k)=>do some (.conv k (<- xo x))
  |_,_=>none
 | .build t ps=>do
  let z <- Vn P t
  let pl <- AE5 P t
  some (.bld z (<- VG pl ps.toList))
 | .buildSlice t len ps=>do
  let e <- T3 P t
  let z <- Vn P e
  let n <- szT P e
  if z.length=n/\0 < n/\len * n<=4096/\len<=4096 then
   (do
     let cp <- VG (fun i=>some (i * n,n)) ps.toList
     some (if sh then .kJ e n len (AF len z).flatten cp else .bsl n len (AF len z).flatten cp))
                                                                          else none
 | .makeFunc (.func f) first caps=>do some (.mkf f (<- xos first.toList) (<- xos caps.toList))
 | .extract x i=>(xo x).map (.ext · i)
 | .nilCheck x=>(xo x).map .nck
 | .makeSlice t l c=>do
  let e <- T3 P t
  let i <- P.info? e
  let z <- Vn P e
  if z.length=i.size/\0 < i.size then some (.msl e i.size i.bytes z (<- xo l) (<- xo c)) else none
 | .call c=>dB P sh c
 |_=>none
def ALX (P:Program) (im:Bool):Builtin->List Operand->List TypeId->Option O
 | .append,[s,x],[t,u]=>(T3 P t).bind fun e=>(P.info? e).bind fun i=>if im then (if t=u/\0 < i.size/\i.bytes<=10000/\i.zero.map (·.cells.size)=some i.size then (xo s).bind fun a=>(xo x).map fun b=>.ex (.y6 e i.size) [a,b] else none) else none
 | .len,[x],[t]=>match P.underlying t with
  |some (.map _ _)=>(xo x).map fun a=>.ex .AEV [a]
  |_=>none
 |_,_,_=>none
def AAY (P:Program) (e:TypeId):Bool:=match P.underlying e with|some (.int .i64)=>true|_=>false
def AST (P:Program) (e:TypeId):Bool:=match P.info? e with
 |some i=>match i.zero with|some (.int .i64 0)=>true|_=>false
 |none=>false
def ALW (P:Program) (sh im:Bool):Op->Option O
 | .alloc t=>if sh then (Vn P t).map fun z=>.ex (.alt t z) [] else none
 | .binOp op t x y _=>match P.underlying t,y with
  |some (.slice _),.const (.slice none 0 0)=>match op with
   | .eql=>(xo x).map fun a=>.ex (.tC false) [a]
   | .neq=>(xo x).map fun a=>.ex (.tC true) [a]
   |_=>none
  |_,_=>none
 | .makeMap _ none=>some (.ex .mmk [])
 | .lookup t x y true=>match P.underlying t with
  |some (.map k e)=>if AAY P k=true/\AST P e=true then (xo x).bind fun a=>(xo y).map fun b=>.ex .AJM [a,b] else none
  |_=>none
 | .mapUpdate t x y z=>match P.underlying t with
  |some (.map k _)=>if AAY P k=true then (xo x).bind fun a=>(xo y).bind fun b=>(xo z).map fun c=>.iC a b c else none
  |_=>none
 | .call c=>match c.callee with
  | .builtin b=>ALX P im b c.args.toList c.argTypes.toList
  |_=>none
 |_=>none
end Go.Ab
namespace Go.Ab
open Go.RowKit
variable {P:Program} {base N:Nat} {g:Gh} {Pr:Nat->Prop} {σ:AI} {w0 w w':World} {lam:Nat->Option Nat} {F:Fm} {L:Lm} {a:Act}
def VOp (P:Program) (o:Oper) (F:Fm) (L:Lm) (σ:AI) (v:AV):Prop:=
 ∀(base:Nat) (g:Gh) (lam:Nat->Option Nat) (Pr:Nat->Prop) (N:Nat) (a:Act) (w0 w:World),Bv base g lam Pr N F L σ a w0 w->
  ∃x g' w',(execOp a.eval o).run P w= .ok (.value x) w'/\g.le g'/\KP Pr w w'/\SV g' lam v x/\Bv base g' lam Pr N F L σ a w0 w'
theorem VOp.same {o:Oper} {v:AV}
 (h:∀(base:Nat) (g:Gh) (lam:Nat->Option Nat) (Pr:Nat->Prop) (N:Nat) (a:Act) (w0 w:World),Bv base g lam Pr N F L σ a w0 w->
   ∃x,(execOp a.eval o).run P w= .ok (.value x) w/\SV g lam v x):VOp P o F L σ v:=by
 intro base g lam Pr N a w0 w hf;obtain ⟨x,hr,hs⟩:=h base g lam Pr N a w0 w hf;exact ⟨x,g,w,hr,Gh.le_refl g,KP.refl Pr w,hs,hf⟩
theorem zW {v:Value} {x:AV} (h:cv v=some x) (g:Gh):VR g x v:=by
 unfold cv at h;split at h
 . cases h;exact .d .bool
 . split at h
   . rename_i hk;cases h;exact .d (.int hk)
   . cases h
 . rename_i s;split at h
   . rename_i hl;cases h;have:(HW s.data.toList.toArray)=s:=by cases s;simp
     have hh:VR g (.d (.str s.data.toList)) (.string ⟨s.data.toList.toArray⟩):= .d (.str hl)
     rwa [this] at hh
   . cases h
 . cases h;exact .Ae
 . cases h;exact .G4
 . cases h;exact .H0
 . cases h
theorem APZ {v:Value} {x:AV} (h:cv v=some x):x.B8=true:=by
 unfold cv at h;split at h<;>first|(cases h;rfl)|(split at h<;>first|(cases h;rfl)|cases h)|cases h
theorem SV.mono {g g':Gh} (hg:g.le g') {x:AV} {v:Value} (h:SV g lam x v):SV g' lam x v:=by
 cases x<;>first|exact VR.mono hg h|exact h
theorem Aq {y:Operand} {x:X} (hx:xo y=some x) (h:Bv base g lam Pr N F L σ a w0 w):SV g lam (xv F x) (a.eval y):=by
 cases y with
 |tmp n=>simp only [xo,AL] at hx;subst hx;exact h.tm n
 |const v=>
  simp only [xo,AL] at hx;subst hx;cases hc:cv v with
  |none=>exact SV.Fk (x:= .undef) .undef
  |some c=>exact SV.Fk (zW hc g)
 |func f=>
  simp only [xo,AL] at hx;subst hx;exact VR.fn (fs:=[]) (cs:=[]) rfl rfl (by simp) (by simp)
 |global _=>cases hx
theorem Bm {t:TypeId} {d:TypeDesc} (h:P.underlying t=some d):(underlying t).run P w= .ok d w:=by
 simp [underlying,h]
theorem FV {t:TypeId} {n:Nat} (h:szT P t=some n):(sizeOf t).run P w= .ok n w:=by
 simp only [szT,AN] at h;obtain ⟨i,hi,rfl⟩:=h;simp [sizeOf,typeInfo,hi]
theorem qG {t:TypeId} (h:ldN P t=some none):(isAgg t).run P w= .ok false w:=by
 unfold ldN at h;cases hu:P.underlying t with
 |none=>rw [hu] at h;cases h
 |some d=>
  rw [hu] at h;cases d<;>first|(simp [isAgg,Bm hu];done)|(exfalso;cases hs:szT P t<;>simp [hs] at h)
theorem qH {t:TypeId} {n:Nat} (h:ldN P t=some (some n)):(isAgg t).run P w= .ok true w/\szT P t=some n:=by
 unfold ldN at h;cases hu:P.underlying t with
 |none=>rw [hu] at h;cases h
 |some d=>
  rw [hu] at h;cases d<;>simp at h<;>exact ⟨by simp [isAgg,Bm hu],h⟩
theorem VC {t:TypeId} {n:Option Nat} (ht:ldN P t=some n) {cs:List AV} {vs:List Value} {b off o:Nat} {v:AV} (hr:VRs g cs vs) (hc:Aw cs=true)
 (hcell:∀j u,vs[j]?=some u->w.cell? ⟨b,off+j,none⟩=some u) (hv:rdC cs o n=some v):
 ∃x,(Instr.loadAt t (.pointer (some ⟨b,off+o,none⟩))).run P w= .ok x w/\VR g v x:=by
 cases n with
 |none=>
  simp only [rdC,AB] at hv;obtain ⟨v0,hv,hcv⟩:=hv;obtain ⟨rfl,_⟩:=aS hcv;obtain ⟨x,hx,hvr⟩:=hr.at o _ hv;exact ⟨x,by simp [Instr.loadAt,Instr.sureAddr,loadVar,qG ht,hcell o x hx],hvr⟩
 |some n=>
  simp only [rdC] at hv;split at hv
  . rename_i hle;cases hv;obtain ⟨h1,h2⟩:=qH (w:=w) ht;have hlen:=hr.length;have hrr:=(hr.drop o).take n;refine ⟨.agg ((vs.drop o).take n).toArray,?_,.agg (by simp [hlen]) ?_ (fun i c u hc hu=>hrr.idx i c u hc hu)⟩
    . have hl:((vs.drop o).take n).length=n:=by simp;omega
      have hload:=run_loadCells_list (P:=P) w ⟨b,off+o,none⟩ ((vs.drop o).take n) (fun j u hu=>by
       rw [Addr.add_lit];rw [B2] at hu;split at hu
       . rw [BT] at hu;rw [Wb];exact hcell (o+j) u hu
       . cases hu)
      rw [hl] at hload;simp [Instr.loadAt,Instr.sureAddr,loadVar,h1,FV h2,hload]
    . intro c hcm;have:c∈cs:=I8 (D5 hcm);simp only [Aw,A8] at hc;exact hc c this
  . cases hv
theorem zN {b:Nat} {vs:Array Value} {ty:TypeId} {fr:Nat×Nat} (h:w.heap[b]?=some (.cells vs ty fr)):∀j u,vs.toList[j]?=some u->w.cell? ⟨b,0+j,none⟩=some u:=by
 intro j u hu;rw [BJ,cell_of_row w b j vs ty fr h];simpa using hu
theorem XE (r:List DV):Aw (r.map AV.d)=true:=by simp [Aw,AV.B8]
theorem AA0 {t:TypeId} {n:Option Nat} (ht:ldN P t=some n) (h:Bv base g lam Pr N F L σ a w0 w) {p:AV} {pvl:Value} (hp:SV g lam p pvl) {v:AV} (hv:ldA L σ p n=some v):
 ∃x,(Instr.loadAt t pvl).run P w= .ok x w/\VR g v x:=by
 cases p with
 |lp k o=>
  obtain ⟨b,hb,rfl⟩:=hp;simp only [ldA,AB] at hv;obtain ⟨cs,hcs,hv⟩:=hv;obtain ⟨hok,b',vs,ty,hb',_,hheap,hrs⟩:=h.loc k cs hcs;rw [hb] at hb';cases hb';have:=VC (P:=P) (w:=w) (off:=0) ht hrs hok (zN hheap) hv;simpa using this
 |gp i o=>
  simp only [ldA,AB] at hv;obtain ⟨cs,hcs,hv⟩:=hv;obtain ⟨b,hb,ho⟩:=h.rel.shr i cs hcs;obtain ⟨vs,ty,hheap,_,_,hrs⟩:=ho.row;cases hp with
  |gp hm=>
   rw [hb] at hm;cases hm
   have:=VC (P:=P) (w:=w) (off:=0) ht hrs ho.ok (fun j u hu=>zN hheap j u (by
    rw [B2] at hu;split at hu
    . exact hu
    . cases hu)) hv
   simpa using this
 |d x=>
  cases x<;>simp only [ldA] at hv<;>try (cases hv;done)
  rename_i r;cases hp with
  |d hp=>cases hp with
   |@ptr _ b o2 f hi hr=>
    have hrs:VRs g (r.map AV.d) ((BA r.length).map f):=by
     refine VRs.Sm _ _ (by simp) fun i c u hc hu=>?_;rw [Aj,AN] at hc hu;obtain ⟨x,hx,rfl⟩:=hc;obtain ⟨j,hj,rfl⟩:=hu
     have hji:i=j:=by
      rw [ED (by have:=(AG.1 hx).1;omega)] at hj;simpa using hj
     subst hji;exact .d (hr i x hx)
    exact VC (P:=P) (w:=w) (off:=o2) (o:=0) ht hrs (XE r) (fun j u hu=>by
     rw [Aj,AN] at hu;obtain ⟨i,hi',rfl⟩:=hu
     have hlt:j < r.length:=by
      rcases C7 j r.length with h1|h1
      . exact h1
      . simp [h1] at hi'
     rw [ED hlt] at hi';cases hi';exact h.rel.im _ _ _ (hi j hlt)) hv
 |ep r o=>
  cases hp with
  |@ep _ _ b o2 f hi hr=>
   have hrs:VRs g (r.map AV.d) ((BA r.length).map f):=by
    refine VRs.Sm _ _ (by simp) fun i c u hc hu=>?_;rw [Aj,AN] at hc hu;obtain ⟨x,hx,rfl⟩:=hc;obtain ⟨j,hj,rfl⟩:=hu
    have hji:i=j:=by
     rw [ED (by have:=(AG.1 hx).1;omega)] at hj;simpa using hj
    subst hji;exact .d (hr i x hx)
   exact VC (P:=P) (w:=w) (off:=o2) ht hrs (XE r) (fun j u hu=>by
    rw [Aj,AN] at hu;obtain ⟨i,hi',rfl⟩:=hu
    have hlt:j < r.length:=by
     rcases C7 j r.length with h1|h1
     . exact h1
     . simp [h1] at hi'
    rw [ED hlt] at hi';cases hi';exact h.rel.im _ _ _ (hi j hlt)) hv
 |_=>simp [ldA] at hv
end Go.Ab
namespace Go.Ab
open Go.RowKit
variable {P:Program} {base N:Nat} {g:Gh} {Pr:Nat->Prop} {σ:AI} {w0 w w':World} {lam:Nat->Option Nat} {F:Fm} {L:Lm} {a:Act}
theorem AIN {s f off:Nat} (ho:AIH P s f=some off) {p v:AV} {pvl:Value} (hp:SV g lam p pvl) (hv:ADZ p off=some v):
 ∃x,(Instr.fieldAt s pvl f).run P w= .ok x w/\SV g lam v x:=by
 unfold AIH at ho;cases hu:P.underlying s with
 |none=>rw [hu] at ho;cases ho
 |some d=>
  rw [hu] at ho;cases d<;>try (cases ho;done)
  rename_i fs;simp only [AB] at ho;obtain ⟨fd,hfd,n,hn,hoff⟩:=ho;split at hoff
  . cases hoff
  . rename_i hn0;cases hoff
    have key:∀b o,(Instr.fieldAt s (.pointer (some ⟨b,o,none⟩)) f).run P w= .ok (.pointer (some ⟨b,o+fd.offset,none⟩)) w:=by
     intro b o;simp [Instr.fieldAt,Bm hu,hfd,Instr.sureAddr,fieldPlace,FV hn,hn0,Addr.add_lit]
    cases p with
    |lp k o=>obtain ⟨b,hb,rfl⟩:=hp;cases hv;exact ⟨_,key b o,b,hb,rfl⟩
    |gp i o=>cases hv;cases hp with|gp hm=>exact ⟨_,key _ o,.gp hm⟩
    |ep r o=>
     cases hv;cases hp with
     |@ep _ _ b o2 ff hi hr=>
      refine ⟨_,key b (o2+o),?_⟩;rw [Wb];exact VR.ep hi hr
    |d x=>
     cases x<;>simp only [ADZ] at hv<;>try (cases hv;done)
     cases hv;cases hp with
     |d hp=>cases hp with
      |@ptr _ b o2 ff hi hr=>exact ⟨_,key b o2,VR.ep hi hr⟩
    |_=>simp [ADZ] at hv
theorem AI8 {rows:List (List DV)} {m:Int} {size:Nat} {v:AV} (hv:ixR rows m size=some v) {sv:Value} (hs:RD g.im (.sl rows) sv):
 ∃b off cap r,sv= .slice (some ⟨b,off,none⟩) rows.length cap/\0<=m/\m < rows.length/\rows[m.toNat]?=some r/\v= .ep r 0/\VR g v (.pointer (some ⟨b,off+m.toNat * size,none⟩)):=by
 unfold ixR at hv;split at hv
 . rename_i h0;simp only [AB] at hv;obtain ⟨r,hr,hv⟩:=hv;split at hv
   . rename_i hl;cases hv;have hlt:=(AG.1 hr).1;cases hs with
     |nil=>simp at hr
     |@sl _ b off cap size' f hc hm hsz hi hrr=>
      have hsz':size'=size:=by rw [<- hl];exact (hsz r (AE hr)).symm
      subst hsz';refine ⟨b,off,cap,r,rfl,h0,by omega,hr,rfl,?_⟩;exact VR.ep (o:=off+m.toNat * size') (off:=0) (f:=f m.toNat) (fun j hj=>hi _ _ hlt (by omega)) (fun j x hx=>hrr _ _ _ _ hr hx)
   . cases hv
 . cases hv
theorem AMW {t e size:Nat} (he:T3 P t=some e) (hsz:szT P e=some size) {p q v:AV} {pvl qvl:Value} (hp:SV g lam p pvl) (hq:SV g lam q qvl)
 (hv:ixA p q size=some v):∃x,(Instr.indexAt t pvl qvl).run P w= .ok x w/\SV g lam v x:=by
 have hu:P.underlying t=some (.slice e):=by
  unfold T3 at he;split at he
  . rename_i e' hh;cases he;exact hh
  . cases he
 have key:∀(rows:List (List DV)) (k:IntKind) (m:Int),RD g.im (.sl rows) pvl->q= .d (.int k m)->ixR rows m size=some v->∃x,(Instr.indexAt t pvl qvl).run P w= .ok x w/\SV g lam v x:=by
  intro rows k m hs hqe hr;subst hqe;cases hq with
  |d hd=>
   cases hd;obtain ⟨b,off,cap,r,rfl,h0,h1,hrr,rfl,hvr⟩:=AI8 hr hs;exact ⟨_,by simp [Instr.indexAt,asIntOf,Bm hu,FV hsz,h0,h1,Addr.add_lit],SV.Fk hvr⟩
 unfold ixA at hv;split at hv
 . rename_i i n k m;split at hv
   . rename_i hb;cases hv;cases hp with
     |@ms _ _ _ _ b cap hm hrm hn hmx=>
      cases hq with
      |d hd=>
       cases hd;exact ⟨.pointer (some ⟨b,m.toNat * size,none⟩),by simp [Instr.indexAt,asIntOf,Bm hu,FV hsz,hb.1,hb.2,Addr.add_lit],.gp hm⟩
   . cases hv
 . rename_i i o n s e1 k m;split at hv
   . rename_i hb;obtain ⟨hb,rfl⟩:=hb;cases hv;cases hp with
     |@mv _ _ _ _ _ b oa cap hm hrm hn hmx ho=>
      cases hq with
      |d hd=>
       cases hd;have hoo:=ho (by omega);subst hoo;exact ⟨.pointer (some ⟨b,(o+m.toNat) * s,none⟩),by simp [Instr.indexAt,asIntOf,Bm hu,FV hsz,hb.1,hb.2,Addr.add_lit,CK],.gp hm⟩
   . cases hv
 . cases hp with|d hd=>exact key _ _ _ hd rfl hv
 . cases hp with|own hd _ _=>exact key _ _ _ hd rfl hv
 . cases hp with|clip hd=>exact key _ _ _ hd rfl hv
 . cases hv
theorem RD.Q8 {im:Nat->Nat->Option Value} {rows:List (List DV)} {v:Value} (h:RD im (.sl rows) v):∃a cap,v= .slice a rows.length cap/\rows.length<=maxLen:=by
 cases h with
 |nil=>exact ⟨_,_,rfl,GW _⟩
 |sl hc hm _ _ _=>exact ⟨_,_,rfl,Ap hc hm⟩
theorem dR {n:Nat} (h:n<=maxLen):IntKind.i64.has n:=by
 simp only [maxLen] at h;unfold IntKind.has IntKind.min IntKind.max IntKind.signed IntKind.bits;simp;omega
theorem AJE {t e:TypeId} (ht:P.underlying t=some (.slice e)) {p v:AV} {pvl:Value} (hty:TypeId) (hp:SV g lam p pvl) (hv:Tx p=some v):
 ∃x,(Builtin.len_ #[t] hty #[pvl]).run P w= .ok x w/\SV g lam v x:=by
 have key:∀rows:List (List DV),RD g.im (.sl rows) pvl->v= .d (.int .i64 rows.length)->∃x,(Builtin.len_ #[t] hty #[pvl]).run P w= .ok x w/\SV g lam v x:=by
  intro rows hr he;subst he;obtain ⟨a,cap,rfl,hl⟩:=hr.Q8;exact ⟨_,by simp [Builtin.len_,Bm ht,goInt],.d (.int (dR hl))⟩
 cases p with
 |d x=>cases x with
  |sl rows=>simp only [Tx,AL] at hv;cases hp with|d h=>exact key rows h hv.symm
  |_=>cases hv
 |Ae=>cases hv;cases hp;exact ⟨_,by simp [Builtin.len_,Bm ht,goInt],.d (.int (dR (GW _)))⟩
 |own t' e' s' rows=>simp only [Tx,AL] at hv;cases hp with|own h _ _=>exact key rows h hv.symm
 |clip rows=>simp only [Tx,AL] at hv;cases hp with|clip h=>exact key rows h hv.symm
 |mv i o n s e=>simp only [Tx,AL] at hv;subst hv;cases hp with|mv h hr hn hm ho=>exact ⟨_,by simp [Builtin.len_,Bm ht,goInt],.d (.int (dR (show n<=maxLen by omega)))⟩
 |ms i n s e=>simp only [Tx,AL] at hv;subst hv;cases hp with|ms h hr hn hm=>exact ⟨_,by simp [Builtin.len_,Bm ht,goInt],.d (.int (dR (Ap hn hm)))⟩
 |_=>cases hv
theorem AFR {t:TypeId} (ht:P.underlying t=some .string) {p v:AV} {pvl:Value} (hty:TypeId) (hp:SV g lam p pvl) (hv:vI p=some v):
 ∃x,(Builtin.len_ #[t] hty #[pvl]).run P w= .ok x w/\SV g lam v x:=by
 cases p with
 |d x=>cases x with
  |str s=>
   simp only [vI,AL] at hv;subst hv;cases hp with
   |d h=>cases h with
    |str hl=>
     have hs:(HW s.toArray).size=s.length:=by show s.toArray.size=s.length;simp
     exact ⟨_,by simp [Builtin.len_,Bm ht,goInt,hs],.d (.int (dR hl))⟩
  |_=>cases hv
 |_=>cases hv
theorem AFP {t:TypeId} (ht:P.underlying t=some .string) {p q v:AV} {pvl qvl:Value} (hp:SV g lam p pvl) (hq:SV g lam q qvl) (hv:qN p q=some v):
 ∃x,(Instr.index t pvl qvl).run P w= .ok x w/\SV g lam v x:=by
 unfold qN at hv;split at hv
 . rename_i s k m;split at hv
   . rename_i h0;simp only [AN] at hv;obtain ⟨b,hb,rfl⟩:=hv;cases hp with
     |d h=>cases h;cases hq with
      |d h=>cases h;exact ⟨.int .u8 b.toNat,by
       have hlt:=(AG.1 hb).1
       have:(HW s.toArray)[m.toNat]?=some b:=by
        have h1:m.toNat < (HW s.toArray).size:=by simpa [ByteArray.size] using hlt
        rw [getElem?_pos (HW s.toArray) m.toNat h1];have h2:=(AG.1 hb).2;show some (s.toArray[m.toNat]'_)=some b;simp [h2]
       simp [Instr.index,asIntOf,Bm ht,h0,this],.d (.int (by
        have:=b.toNat_lt;unfold IntKind.has IntKind.min IntKind.max IntKind.signed IntKind.bits;simp;omega))⟩
   . cases hv
 . cases hv
theorem Te (k:IntKind) (n:Int):k.has (k.wrap n):=by
 unfold IntKind.has IntKind.wrap IntKind.min IntKind.max;cases k<;>simp [IntKind.signed,IntKind.bits]<;>(try split)<;>omega
theorem AMQ {k:IntKind} {a b:Int} (ha:k.has a):k.has (a.tmod b):=by
 unfold IntKind.has IntKind.min IntKind.max at *
 have h1:0<=a->0<=a.tmod b/\a.tmod b<=a:=fun h=>⟨Int.tmod_nonneg b h,by
  have:(a.tmod b).natAbs<=a.natAbs:=by rw [Int.natAbs_tmod];exact Nat.mod_le _ _
  have:=Int.tmod_nonneg b h;omega⟩
 have h2:a<=0->a<=a.tmod b/\a.tmod b<=0:=fun h=>by
  have h3:(a.tmod b).natAbs<=a.natAbs:=by rw [Int.natAbs_tmod];exact Nat.mod_le _ _
  have h4:a.tmod b=-((-a).tmod b):=by rw [Int.neg_tmod,Int.neg_neg]
  have h5:=Int.tmod_nonneg b (show 0<=-a by omega);omega
 cases k<;>simp [IntKind.signed,IntKind.bits] at *<;>(rcases Int.le_total 0 a with h|h<;>first|(have:=h1 h;omega)|(have:=h2 h;omega))
theorem l5 {op:BinOp} {t:TypeId} (y z:Operand) (k k':IntKind) (a b:Int):(eqGuard op t y z (.int k a) (.int k' b)).run P w= .ok () w:=by
 unfold eqGuard;cases op<;>simp
theorem l6 {op:BinOp} {t:TypeId} (y z:Operand) (a b:ByteArray):(eqGuard op t y z (.string a) (.string b)).run P w= .ok () w:=by
 unfold eqGuard;cases op<;>simp
theorem UJ {op:BinOp} {t:TypeId} (y z:Operand) (a b:Bool):(eqGuard op t y z (.bool a) (.bool b)).run P w= .ok () w:=by
 unfold eqGuard;cases op<;>simp
theorem AIZ {op:BinOp} {t:TypeId} {k:IntKind} {a b:Int} {v:AV} (ha:k.has a) (hv:AIY op k a b=some v):
 ∃x,(binOp op t (.int k a) (.int k b)).run P w= .ok x w/\VR g v x:=by
 cases op<;>simp only [AIY] at hv<;>try (cases hv;done)
 case add=>cases hv;exact ⟨_,by simp [binOp,Op.intArith],.d (.int (Te _ _))⟩
 case sub=>cases hv;exact ⟨_,by simp [binOp,Op.intArith],.d (.int (Te _ _))⟩
 case mul=>cases hv;exact ⟨_,by simp [binOp,Op.intArith],.d (.int (Te _ _))⟩
 case quo=>
  split at hv
  . cases hv
  . rename_i hb;cases hv;exact ⟨_,by simp [binOp,Op.intDiv,hb],.d (.int (Te _ _))⟩
 case rem=>
  split at hv
  . cases hv
  . rename_i hb;cases hv;exact ⟨_,by simp [binOp,Op.intDiv,hb],.d (.int (AMQ ha))⟩
 all_goals (cases hv;exact ⟨_,by simp [binOp,Op.intCmp],.d .bool⟩)
theorem v9 (s:List UInt8):(HW s.toArray).toList=s:=by
 rw [ByteArray.toList_eq]
theorem m8 (s:List UInt8):(HW s.toArray).size=s.length:=by show s.toArray.size=s.length;simp
theorem vZ (s t:List UInt8):HW s.toArray++HW t.toArray=HW (s++t).toArray:=by
 apply ByteArray.ext;simp [ByteArray.data_append]
theorem AKP {op:BinOp} {t:TypeId} {s u:List UInt8} {v:AV} (hv:AB8 op s u=some v):
 ∃x,(binOp op t (.string ⟨s.toArray⟩) (.string ⟨u.toArray⟩)).run P w= .ok x w/\VR g v x:=by
 cases op<;>simp only [AB8] at hv<;>try (cases hv;done)
 case add=>
  split at hv
  . rename_i hl;cases hv;refine ⟨.string ⟨(s++u).toArray⟩,?_,.d (.str (by simpa using hl))⟩
    have h2:(s.length:Int)+(u.length:Int)<=9223372036854775807:=by
     simp only [maxLen] at hl;omega
    simp [binOp,Op.stringOp,m8,vZ,h2]
  . cases hv
 all_goals (cases hv;exact ⟨_,by simp only [binOp,Op.stringOp,v9];rfl,.d .bool⟩)
theorem AHS {op:BinOp} {t:TypeId} (y z:Operand) {p q v:AV} {pvl qvl:Value} (hp:SV g lam p pvl) (hq:SV g lam q qvl) (hv:AHR op p q=some v):
 ∃x,((do eqGuard op t y z pvl qvl;binOp op t pvl qvl:Sem Value)).run P w= .ok x w/\SV g lam v x:=by
 unfold AHR at hv;split at hv
 . rename_i k a k' b;split at hv
   . rename_i hk;subst hk;cases hp with|d hp=>cases hq with|d hq=>cases hp with|int ha=>cases hq with|int hb=>
     obtain ⟨x,hx,hr⟩:=AIZ (P:=P) (w:=w) (g:=g) (t:=t) ha hv;exact ⟨x,by simp only [Sem.run_bind,l5,Result.andThen_ok];exact hx,SV.Fk hr⟩
   . cases hv
 . cases hp with|d hp=>cases hq with|d hq=>cases hp with|str ha=>cases hq with|str hb=>
   obtain ⟨x,hx,hr⟩:=AKP (P:=P) (w:=w) (g:=g) (t:=t) hv;exact ⟨x,by simp only [Sem.run_bind,l6,Result.andThen_ok];exact hx,SV.Fk hr⟩
 . cases hv
theorem run_equalIn_bool (d:Nat) {t:TypeId} (ht:P.underlying t=some .bool) (a b:Bool):(Op.equalIn (d+1) t (.bool a) (.bool b)).run P w= .ok (a==b) w:=by
 simp [Op.equalIn,Bm ht]
theorem run_equal_bool {t:TypeId} (ht:P.underlying t=some .bool) (a b:Bool):(Op.equal t (.bool a) (.bool b)).run P w= .ok (a==b) w:=
 run_equalIn_bool 9999 ht a b
theorem AC1 {op:BinOp} {t:TypeId} (ht:P.underlying t=some .bool) (y z:Operand) {p q v:AV} {pvl qvl:Value} (hp:SV g lam p pvl) (hq:SV g lam q qvl) (hv:tL op p q=some v):
 ∃x,((do eqGuard op t y z pvl qvl;binOp op t pvl qvl:Sem Value)).run P w= .ok x w/\SV g lam v x:=by
 unfold tL at hv;split at hv
 . cases hv;cases hp with|d hp=>cases hq with|d hq=>cases hp;cases hq;exact ⟨_,by simp only [Sem.run_bind,UJ,Result.andThen_ok];simp [binOp,run_equal_bool ht],.d .bool⟩
 . cases hv;cases hp with|d hp=>cases hq with|d hq=>cases hp;cases hq;exact ⟨_,by simp only [Sem.run_bind,UJ,Result.andThen_ok];simp [binOp,run_equal_bool ht],.d .bool⟩
 . cases hv
theorem AO4 {op:UnOp} {p v:AV} {pvl:Value} (hp:SV g lam p pvl) (hv:unA op p=some v):∃x,(Op.unary op pvl).run P w= .ok x w/\SV g lam v x:=by
 unfold unA at hv;split at hv
 . cases hv;cases hp with|d hp=>cases hp;exact ⟨_,by simp [Op.unary],.d .bool⟩
 . cases hv;cases hp with|d hp=>cases hp;exact ⟨_,by simp [Op.unary,Op.intArith],.d (.int (Te _ _))⟩
 . cases hv
theorem ADP {s t:TypeId} {k j:IntKind} (hs:P.underlying s=some (.int j)) (ht:P.underlying t=some (.int k)) {p v:AV} {pvl:Value} (hp:SV g lam p pvl) (hv:tW k p=some v):
 ∃x,(convert s t pvl).run P w= .ok x w/\SV g lam v x:=by
 unfold tW at hv;split at hv
 . cases hv;cases hp with|d hp=>cases hp;exact ⟨_,by simp [convert,Bm hs,Bm ht,Conv.intToInt],.d (.int (Te _ _))⟩
 . cases hv
theorem AIF {p v:AV} {i:Nat} {pvl:Value} (hp:SV g lam p pvl) (hv:AIE p i=some v):∃x,(Instr.extract pvl i).run P w= .ok x w/\VR g v x:=by
 unfold AIE at hv;split at hv
 . simp only [AB] at hv;obtain ⟨v0,hv,hnv⟩:=hv;obtain ⟨rfl,_⟩:=pM hnv;cases hp with
   |@tup cs vs hl h=>
    have hlt:=(AG.1 hv).1;have hv':vs[i]?=some (vs[i]'(by omega)):=by simp
    exact ⟨_,by simp [Instr.extract,hv'],h i _ _ hv hv'⟩
 . cases hv
theorem eL {b:Bool} {p q v:AV} {pvl qvl:Value} (ts:Array TypeId) (ty:TypeId) (hp:SV g lam p pvl) (hq:SV g lam q qvl) (hv:mmA b p q=some v):
 ∃x,(if b then Builtin.max_ ts ty #[pvl,qvl] else Builtin.min_ ts ty #[pvl,qvl]).run P w= .ok x w/\SV g lam v x:=by
 unfold mmA at hv;split at hv
 . split at hv
   . rename_i hk;subst hk;cases hv;cases hp with|d hp=>cases hq with|d hq=>cases hp with|int ha=>cases hq with|int hb=>
     cases b
     . refine ⟨_,by simp [Builtin.min_,Builtin.min2],.d (.int ?_)⟩;simp only [A3,if_false];split<;>assumption
     . refine ⟨_,by simp [Builtin.max_,Builtin.max2],.d (.int ?_)⟩;simp only [if_true];split<;>assumption
   . cases hv
 . cases hv
end Go.Ab
namespace Go.Ab
open Go.RowKit
variable {P:Program} {base N:Nat} {g:Gh} {Pr:Nat->Prop} {σ:AI} {w0 w w':World} {lam:Nat->Option Nat} {F:Fm} {L:Lm} {a:Act}
theorem AMH {s f off:Nat} {n:Option Nat} (ho:AIH P s f=some off) (hn:ATZ P s f=some n) {p v:AV} {pvl:Value}
 (hp:SV g lam p pvl) (hv:fdA p off n=some v):∃x,(Instr.field s pvl f).run P w= .ok x w/\VR g v x:=by
 unfold AIH at ho;unfold ATZ at hn;cases hu:P.underlying s with
 |none=>rw [hu] at ho;cases ho
 |some d=>
  rw [hu] at ho hn;cases d<;>try (cases ho;done)
  rename_i fs;simp only [AB] at ho hn;obtain ⟨fd,hfd,m,hm,hoff⟩:=ho;obtain ⟨fd',hfd',hld⟩:=hn;rw [hfd] at hfd';cases hfd';split at hoff
  . cases hoff
  cases hoff;cases p<;>simp only [fdA] at hv<;>try (cases hv;done)
  rename_i cs;cases hp with
  |@agg _ vs hl hc hr=>
   have hvs:VRs g cs vs:=VRs.Sm _ _ hl hr;cases n with
   |none=>
    simp only [rdC,AB] at hv;obtain ⟨v0,hv,hcv⟩:=hv;obtain ⟨rfl,_⟩:=aS hcv;obtain ⟨x,hx,hvr⟩:=hvs.at fd.offset _ hv;exact ⟨x,by simp [Instr.field,Bm hu,hfd,asAgg,part,qG hld,hx],hvr⟩
   |some n=>
    simp only [rdC] at hv;split at hv
    . rename_i hle;cases hv;obtain ⟨h1,h2⟩:=qH (w:=w) hld;have hrr:=(hvs.drop fd.offset).take n;refine ⟨.agg ((vs.drop fd.offset).take n).toArray,?_,.agg (by simp [hl]) (fun c hcm=>hc c (I8 (D5 hcm))) (fun i c u hc hu=>hrr.idx i c u hc hu)⟩
      have he:vs.toArray.extract fd.offset (fd.offset+n)=((vs.drop fd.offset).take n).toArray:=by
       apply Array.ext';simp [List.drop_take]
      simp [Instr.field,Bm hu,hfd,asAgg,part,h1,FV h2,he]
    . cases hv
inductive SVo (g:Gh) (lam:Nat->Option Nat):Option AV->Option Value->Prop
 |none:SVo g lam none none
 |some {x:AV} {v:Value} (h:SV g lam x v):SVo g lam (some x) (some v)
theorem UR {y:Option Operand} {x:Option X} (hx:xoo y=some x) (h:Bv base g lam Pr N F L σ a w0 w):SVo g lam (x.map (xv F)) (y.map a.eval):=by
 cases y with
 |none=>simp only [xoo,AL] at hx;subst hx;exact .none
 |some y=>
  simp only [xoo,AN] at hx;obtain ⟨z,hz,rfl⟩:=hx;exact .some (Aq hz h)
theorem Iu {x:AV} {v:Value} {n:Nat} (h:Xs x=some n) (hs:SV g lam x v):∃k,v= .int k n:=by
 unfold Xs at h;split at h
 . split at h
   . rename_i h0;cases h;cases hs with|d hd=>cases hd;exact ⟨_,by rw [Int.toNat_of_nonneg h0]⟩
   . cases h
 . cases h
theorem Jn {n y:Nat} {k:IntKind} (h:n<=y) (c:BoundsCode):(Instr.sliceBound (.int k n) y c).run P w= .ok n w:=by
 have h1:(0:Int)<=(n:Int)/\(n:Int)<=(y:Int):=by omega
 simp [Instr.sliceBound,asIntOf,h1]
theorem tM {n cap l h:Nat} {lo hi:Option AV} {lov hiv:Option Value} (isS:Bool) (hlo:SVo g lam lo lov) (hhi:SVo g lam hi hiv) (hn:n<=cap) (hb:fS n lo hi=some (l,h)):
 (l<=h/\h<=n)/\(Instr.sliceBounds isS n cap lov hiv none).run P w= .ok (l,h,cap) w/\(∀k,hiv.isSome=true->(Instr.sliceBounds isS n cap lov hiv (some (.int k (h:Int)))).run P w= .ok (l,h,h) w):=by
 unfold fS at hb;simp only [AB] at hb;obtain ⟨l',hl',h',hh',hb⟩:=hb;split at hb
 case isFalse=>cases hb
 rename_i hle;cases hb;refine ⟨hle,?_⟩;unfold Instr.sliceBounds;cases hhi with
 |none=>
  simp only [AL] at hh';subst hh';cases hlo with
  |none=>simp only [AL] at hl';subst hl';simp
  |some hs=>
   obtain ⟨k,rfl⟩:=Iu hl' hs;simp [Jn hle.1]
 |some hs2=>
  obtain ⟨k2,rfl⟩:=Iu hh' hs2;cases hlo with
  |none=>simp only [AL] at hl';subst hl';simp [Jn (Ap hle.2 hn),Jn (AW h)]
  |some hs=>
   obtain ⟨k,rfl⟩:=Iu hl' hs;simp [Jn hle.1,Jn (Ap hle.2 hn),Jn (AW h)]
theorem rO (s:List UInt8) (l h:Nat):(HW s.toArray).extract l h=⟨((s.take h).drop l).toArray⟩:=by
 apply ByteArray.ext;simp [ByteArray.data_extract];rw [List.drop_take]
theorem AKN {t:TypeId} (ht:P.underlying t=some .string) {p:AV} {lo hi:Option AV} {pvl:Value} {lov hiv:Option Value} {v:AV} (hp:SV g lam p pvl) (hlo:SVo g lam lo lov) (hhi:SVo g lam hi hiv)
 (hv:YO p lo hi=some v):∃x,(Instr.sliceAt t pvl lov hiv none).run P w= .ok x w/\VR g v x:=by
 unfold YO at hv;split at hv
 . rename_i s;simp only [AN] at hv;obtain ⟨⟨l,h⟩,hb,rfl⟩:=hv;cases hp with|d hp=>cases hp with|str hl=>
   obtain ⟨hle,hrun,_⟩:=tM (P:=P) (w:=w) (n:=s.length) (cap:=s.length) false hlo hhi (AW _) hb;refine ⟨.string ⟨((s.take h).drop l).toArray⟩,?_,.d (.str (by simp;omega))⟩;simp [Instr.sliceAt,Instr.slice,Bm ht,m8,hrun,rO]
 . cases hv
theorem ARZ (rows:List (List DV)) (l h:Nat) (hh:h<=rows.length):((rows.take h).drop l).length=h - l:=by simp;omega
theorem RD.sub {im:Nat->Nat->Option Value} {rows:List (List DV)} {size l h m:Nat} {ad:Option Addr} {len cap:Nat} (hs:∀r∈rows,r.length=size) (hrd:RD im (.sl rows) (.slice ad len cap)) (hlh:l<=h) (hh:h<=rows.length)
 (hm1:h<=m) (hm2:m<=cap):RD im (.sl ((rows.take h).drop l)) (.slice (if m=l then ad else ad.map (·.add (l * size))) (h - l) (m - l)):=by
 cases hrd with
 |nil hmx hn=>
  have:h=0:=by simpa using hh
  subst this;have:l=0:=by omega
  subst this;simp only [Cn,List.drop_nil,Nat.sub_zero,OR];refine .nil (by omega) (fun e=>?_);split at e
  . assumption
  . cases ad with
    |none=>have:=hn rfl;omega
    |some x=>simp at e
 |@sl _ b off _ size' f hc hmx hs' hi hr=>
  by_cases h0:h=l
  . subst h0;have e:(rows.take h).drop h=[]:=List.drop_eq_nil_of_le (by simp;omega);rw [e,Nat.sub_self];refine .nil (by omega) (fun e=>?_);split at e<;>simp at e
  . have hne:m≠l:=by omega
    have hlen:=ARZ rows l h hh
    have hsz:size'=size:=by
     have h1:0 < rows.length:=by omega
     rw [<- hs' rows[0] (H8 h1),hs rows[0] (H8 h1)]
    subst hsz;rw [if_neg hne];simp only [Ah,Addr.add_lit];rw [<- hlen];refine .sl (size:=size') (f:=fun i j=>f (l+i) j) (by omega) (by omega) (fun r hr'=>hs r (D5 (I8 hr'))) (fun i j hi' hj=>?_) (fun i r j x hi' hj=>?_)
    . have:=hi (l+i) j (by omega) hj;rw [CK] at this;rw [show off+l * size'+i * size'+j=off+(l * size'+i * size')+j by omega];exact this
    . rw [BT,B2] at hi';split at hi'
      . exact hr (l+i) r j x hi' hj
      . cases hi'
theorem AV.AFK {p:AV} {v:Value} {rows:List (List DV)} (hp:SV g lam p v) (hr:p.rows=some rows):RD g.im (.sl rows) v:=by
 cases p<;>simp only [AV.rows] at hr<;>try (cases hr;done)
 . rename_i x;cases x<;>simp only [AL] at hr<;>try (cases hr;done)
   subst hr;cases hp with|d h=>exact h
 . cases hr;cases hp;exact .nil (GW _) (fun _=>rfl)
 . cases hr;cases hp with|own h _ _=>exact h
 . cases hr;cases hp with|clip h=>exact h
theorem RD.uniform {im:Nat->Nat->Option Value} {rows:List (List DV)} {v:Value} (h:RD im (.sl rows) v):∃size,∀r∈rows,r.length=size:=by
 cases h with
 |nil=>exact ⟨0,by simp⟩
 |sl _ _ hs _ _=>exact ⟨_,hs⟩
theorem RD.AWQ {im:Nat->Nat->Option Value} {rows:List (List DV)} {l h m size:Nat} {ad:Option Addr} {len cap:Nat} (hs:l=0\/∀r∈rows,r.length=size) (hrd:RD im (.sl rows) (.slice ad len cap)) (hlh:l<=h) (hh:h<=rows.length)
 (hm1:h<=m) (hm2:m<=cap):RD im (.sl ((rows.take h).drop l)) (.slice (if m=l then ad else ad.map (·.add (l * size))) (h - l) (m - l)):=by
 rcases hs with h0|hs
 . subst h0;obtain ⟨size',hu⟩:=hrd.uniform;have:=RD.sub (size:=size') hu hrd hlh hh hm1 hm2;simpa using this
 . exact RD.sub hs hrd hlh hh hm1 hm2
theorem AKM {t e:TypeId} (ht:P.underlying t=some (.slice e)) {sz:Nat} (hsz:szT P e=some sz) {p:AV} {lo hi mx:Option AV} {pvl:Value} {lov hiv mxv:Option Value} {v:AV} (hp:SV g lam p pvl)
 (hlo:SVo g lam lo lov) (hhi:SVo g lam hi hiv) (hmx:SVo g lam mx mxv) (hv:AKL p lo hi mx sz=some v):
 ∃x,(Instr.sliceAt t pvl lov hiv mxv).run P w= .ok x w/\VR g v x:=by
 unfold AKL at hv;split at hv
 . rename_i h0;split at hv
   . rename_i hn;cases hv;cases hlo;cases hmx;cases hhi with
     |some hh=>
      obtain ⟨kk,rfl⟩:=Iu hn hh;cases hp;refine ⟨.slice none 0 0,?_,.Ae⟩;have hb0:(Instr.sliceBound (.int kk 0) 0 .sliceAcap).run P w= .ok 0 w:=Jn (n:=0) (AW 0) _
      have hb1:(Instr.sliceBounds true 0 0 none (some (.int kk 0)) none).run P w= .ok (0,0,0) w:=by
       simp [Instr.sliceBounds,hb0]
      simp [Instr.sliceAt,Instr.slice,Bm ht,hb1,FV hsz]
   . cases hv
 . rename_i i n s e1 l;simp only [AB] at hv;obtain ⟨l',hl',hv⟩:=hv;split at hv
   case isFalse=>cases hv
   rename_i hcond;obtain ⟨hln,rfl⟩:=hcond;cases hv;cases hhi;cases hmx;cases hlo with
   |some hh=>
    obtain ⟨kk,rfl⟩:=Iu hl' hh;cases hp with
    |@ms _ _ _ _ b cap hm hr hn hmx=>
     have hb1:(Instr.sliceBounds true n cap (some (.int kk l')) none none).run P w= .ok (l',n,cap) w:=by
      have h1:=Jn (P:=P) (w:=w) (k:=kk) hln .sliceB;simp [Instr.sliceBounds,h1]
     by_cases hc:cap=l'
     . refine ⟨.slice (some ⟨b,0,none⟩) (n - l') (cap - l'),?_,.mv hm hr (by omega) hmx (fun h=>by omega)⟩;subst hc;simp [Instr.sliceAt,Instr.slice,Bm ht,hb1,FV hsz]
     . refine ⟨.slice (some ⟨b,l' * s,none⟩) (n - l') (cap - l'),?_,.mv hm hr (by omega) hmx (fun _=>rfl)⟩;simp [Instr.sliceAt,Instr.slice,Bm ht,hb1,FV hsz,hc,Addr.add_lit]
 . rename_i i n s e1 h;simp only [AB] at hv;obtain ⟨h',hh',hv⟩:=hv;split at hv
   case isFalse=>cases hv
   rename_i hcond;cases hv;cases hlo;cases hmx;cases hhi with
   |some hh=>
    obtain ⟨kk,rfl⟩:=Iu hh' hh;cases hp with
    |@ms _ _ _ _ b cap hm hr hn hmx=>
     have hb1:(Instr.sliceBounds true n cap none (some (.int kk h')) none).run P w= .ok (0,h',cap) w:=by
      simp [Instr.sliceBounds,Jn (Ap hcond hn)]
     exact ⟨.slice (some ⟨b,0,none⟩) h' cap,by simp [Instr.sliceAt,Instr.slice,Bm ht,hb1,FV hsz,Addr.add_lit],.ms hm hr (by omega) hmx⟩
 simp only [AB] at hv;obtain ⟨rows,hr,hv⟩:=hv;unfold yF at hv;split at hv
 case isFalse=>cases hv
 rename_i hchk;simp only [AB] at hv;obtain ⟨⟨l,h⟩,hb,hv⟩:=hv;have hrd:=AV.AFK hp hr;obtain ⟨ad,cap,rfl,hlm⟩:=hrd.Q8
 have hcap:rows.length<=cap:=by
  cases hrd with
  |nil=>simp
  |sl hc _ _ _ _=>exact hc
 obtain ⟨hle,hrun,hrun3⟩:=tM (P:=P) (w:=w) (n:=rows.length) (cap:=cap) true hlo hhi hcap hb
 have hl0:l=0\/∀r∈rows,r.length=sz:=by
  simp only [DI] at hchk;rcases hchk with h1|h1
  . left;cases hlo with
    |none=>
     unfold fS at hb;simp only [AB,AL] at hb;obtain ⟨l',hl',h',_,hb⟩:=hb;split at hb
     . cases hb;exact hl'.symm
     . cases hb
    |some _=>cases h1
  . right;intro r hr;simp only [yD,A8,beq_iff_eq] at h1;exact h1 r hr
 cases hmx with
 |none=>
  have hv:some (AV.d (.sl ((rows.take h).drop l)))=some v:=by cases hi<;>exact hv
  cases hv;exact ⟨_,by simp [Instr.sliceAt,Instr.slice,Bm ht,hrun,FV hsz],.d (RD.AWQ hl0 hrd hle.1 hle.2 (Ap hle.2 hcap) (AW _))⟩
 |some hms=>
  cases hhi with
  |none=>cases hv
  |some hhs=>
   simp only at hv;split at hv
   . rename_i hm;cases hv;obtain ⟨k,rfl⟩:=Iu hm hms;have hb2:=hrun3 k rfl;exact ⟨_,by simp [Instr.sliceAt,Instr.slice,Bm ht,hb2,FV hsz],.clip (RD.AWQ hl0 hrd hle.1 hle.2 (AW _) (Ap hle.2 hcap))⟩
   . cases hv
theorem tA {t e:TypeId} (ht:P.underlying t=some (.pointer e)) (q:Option Addr):(Op.equal t (.pointer q) (.pointer none)).run P w= .ok q.isNone w:=by
 have:∀d,(Op.equalIn (d+1) t (.pointer q) (.pointer none)).run P w= .ok q.isNone w:=fun d=>by
  cases q<;>simp [Op.equalIn,Bm ht]
 exact this 9999
theorem AE9 {op:BinOp} {ne:Bool} {t e:TypeId} (ht:P.underlying t=some (.pointer e)) (hop:op=if ne then .neq else .eql) (y z:Operand) {p v:AV} {pvl:Value} (hp:SV g lam p pvl) (hv:u7 ne p=some v):
 ∃x,((do eqGuard op t y z pvl (.pointer none);binOp op t pvl (.pointer none):Sem Value)).run P w= .ok x w/\SV g lam v x:=by
 have key:∀(q:Option Addr),pvl= .pointer q->((do eqGuard op t y z pvl (.pointer none);binOp op t pvl (.pointer none):Sem Value)).run P w= .ok (.bool (if ne then !q.isNone else q.isNone)) w:=by
  intro q hq;subst hq hop;have h1:=tA (P:=P) (w:=w) ht q;have h2:(eqGuard (if ne then .neq else .eql) t y z (.pointer q) (.pointer none)).run P w= .ok () w:=by cases ne<;>simp [eqGuard]
  simp only [Sem.run_bind,h2,Result.andThen_ok];cases ne<;>simp [binOp,h1]
 cases p<;>simp only [u7] at hv<;>try (cases hv;done)
 . rename_i x;cases x<;>simp only [AL] at hv<;>try (cases hv;done)
   . subst hv;cases hp with|d hp=>cases hp;exact ⟨_,key _ rfl,by cases ne<;>exact .d .bool⟩
   . subst hv;cases hp with|d hp=>cases hp;exact ⟨_,key _ rfl,by cases ne<;>exact .d .bool⟩
 . cases hv;obtain ⟨b,hb,rfl⟩:=hp;exact ⟨_,key _ rfl,by cases ne<;>exact .d .bool⟩
 . cases hv;cases hp;exact ⟨_,key _ rfl,by cases ne<;>exact .d .bool⟩
 . cases hv;cases hp;exact ⟨_,key _ rfl,by cases ne<;>exact .d .bool⟩
 . cases hv;cases hp;exact ⟨_,key _ rfl,by cases ne<;>exact .d .bool⟩
theorem Zi (d:Nat):∀(fs:List Field) (o:Nat) (cs ds:List AV) (xs ys:List Value) (r:Bool),
 (fs.zipIdx o).all (fun (f,i)=>f.offset==i&&f.name != "_"&&AEK P f.type)=true->
 cs.length=fs.length->O1 cs ds=some r->VRs g cs (xs.drop o)->VRs g ds (ys.drop o)->(Op.eqFields (d+1) xs.toArray ys.toArray fs).run P w= .ok r w
 |[],o,cs,ds,xs,ys,r,_,hl,hi,_,_=>by
  have:cs=[]:=BP (by simpa using hl);subst this;cases ds with
  |nil=>simp only [O1,AL] at hi;subst hi;simp [Op.eqFields]
  |cons _ _=>cases hi
 |f::fs,o,cs,ds,xs,ys,r,hf,hl,hi,hx,hy=>by
  simp only [List.zipIdx_cons,Bk,AO,beq_iff_eq,bne_iff_ne,ne_eq] at hf;obtain ⟨⟨⟨ho,hn⟩,hint⟩,hrest⟩:=hf;cases cs with
  |nil=>simp at hl
  |cons c cs=>
   cases ds with
   |nil=>cases c<;>simp [O1] at hi
   |cons c' ds=>
    have hc:∃k a b,c= .d (.int k a)/\c'= .d (.int k b)/\∃r',O1 cs ds=some r'/\r=(a==b&&r'):=by
     cases c<;>try (simp [O1] at hi;done)
     rename_i x;cases x<;>try (simp [O1] at hi;done)
     rename_i k a;cases c'<;>try (simp [O1] at hi;done)
     rename_i y;cases y<;>try (simp [O1] at hi;done)
     rename_i k' b;simp only [O1] at hi;split at hi
     . rename_i hk;subst hk;simp only [AN] at hi;obtain ⟨r',hr',rfl⟩:=hi;exact ⟨k,a,b,rfl,rfl,r',hr',rfl⟩
     . cases hi
    obtain ⟨k,a,b,rfl,rfl,r',hr',rfl⟩:=hc;generalize hxd:xs.drop o=xd at hx;generalize hyd:ys.drop o=yd at hy;cases hx with
    |@cons _ vx _ vxs hvx hxs=>
     cases hy with
     |@cons _ vy _ vys hvy hys=>
      cases hvx with|d hvx=>cases hvy with|d hvy=>cases hvx with|int ha1=>cases hvy with|int hb1=>
      have ex:xs.toArray[o]?=some (.int k a):=by
       have:(xs.drop o)[0]?=some (.int k a):=by rw [hxd];rfl
       simpa using this
      have ey:ys.toArray[o]?=some (.int k b):=by
       have:(ys.drop o)[0]?=some (.int k b):=by rw [hyd];rfl
       simpa using this
      have hu:∃k',P.underlying f.type=some (.int k'):=by
       unfold AEK at hint;cases hud:P.underlying f.type with
       |none=>rw [hud] at hint;cases hint
       |some dd=>rw [hud] at hint;cases dd<;>first|exact ⟨_,rfl⟩|cases hint
      obtain ⟨k',hu⟩:=hu;have hagg:(isAgg f.type).run P w= .ok false w:=by simp [isAgg,Bm hu]
      have ih:=Zi d fs (o+1) cs ds xs ys r' hrest (by simpa using hl) hr' (by rw [<- FN,hxd];simpa using hxs) (by rw [<- FN,hyd];simpa using hys);simp only [Op.eqFields,hn,ne_eq,not_false_eq_true,if_true,part,Sem.run_bind,hagg,Result.andThen_ok,A3,if_false,ho,ex,ey,Sem.run_pure,run_equalIn_int w d f.type k k' a b hu];cases hab:(a==b)
      . simp
      . simpa using ih
theorem AFW {op:BinOp} {ne:Bool} {t:TypeId} {fs:Array Field} (hu:P.underlying t=some (.struct fs)) (his:To P t=true) (hop:op=if ne then .neq else .eql) (y z:Operand) {p q v:AV} {pvl qvl:Value}
 (hp:SV g lam p pvl) (hq:SV g lam q qvl) (hv:vJ ne fs.size p q=some v):
 ∃x,((do eqGuard op t y z pvl qvl;binOp op t pvl qvl:Sem Value)).run P w= .ok x w/\SV g lam v x:=by
 unfold vJ at hv;split at hv
 case h_2=>cases hv
 rename_i l m;split at hv
 case isFalse=>cases hv
 rename_i hlen;simp only [AN] at hv;obtain ⟨r,hr,rfl⟩:=hv;unfold To at his;rw [hu] at his;simp only [AO,beq_iff_eq,Br] at his;obtain ⟨⟨⟨hall,hsz⟩,hst⟩,hgd⟩:=his;cases hp with
 |@agg _ xs hl hc hx=>
  cases hq with
  |@agg _ ys hl' hc' hy=>
   have hxs:VRs g l xs:=VRs.Sm _ _ hl hx;have hys:VRs g m ys:=VRs.Sm _ _ hl' hy;have hfo:P.fieldsOf t=fs:=by unfold Program.fieldsOf;rw [hu]
   have hrun:(Op.equalIn 10000 t (.agg xs.toArray) (.agg ys.toArray)).run P w= .ok r w:=by
    have h1:=run_equalIn_struct (P:=P) w 9999 t xs.toArray ys.toArray (by rw [hfo];exact hu) hst;rw [h1,hfo];exact Zi 9998 fs.toList 0 l m xs ys r hall (by simpa using hlen) hr (by simpa using hxs) (by simpa using hys)
   have hg:(eqGuard op t y z (.agg xs.toArray) (.agg ys.toArray)).run P w= .ok () w:=run_eqGuard_agg w op t y z _ _ hgd;refine ⟨.bool (if ne then !r else r),?_,SV.Fk (.d .bool)⟩;simp only [Sem.run_bind,hg,Result.andThen_ok];subst hop;have he:(Op.equal t (.agg xs.toArray) (.agg ys.toArray)).run P w= .ok r w:=hrun;cases ne<;>simp [binOp,he]
end Go.Ab
namespace Go.Ab
open Go.RowKit
variable {P:Program} {base N:Nat} {g g':Gh} {Pr:Nat->Prop} {σ σ':AI} {w0 w w':World} {lam:Nat->Option Nat} {F:Fm} {L:Lm} {a:Act}
theorem uJ (off:Nat):∀(vs:List Value) (k:Nat) (cells:Array Value),off+k+vs.length<=cells.size->
 (vs.zipIdx k).foldl (fun cs (x:Value×Nat)=>cs.setIfInBounds (off+x.2) x.1) cells=(cells.toList.take (off+k)++vs++cells.toList.drop (off+k+vs.length)).toArray
 |[],k,cells,h=>by simp
 |v::vs,k,cells,h=>by
  simp only [List.zipIdx_cons,Ao];have hl:off+k+(vs.length+1)<=cells.size:=by simpa using h
  rw [uJ off vs (k+1) _ (by simp;omega)];have:=list_seg_step cells.toList (off+k) v vs (by simpa using hl);simp only [Array.toList_setIfInBounds,A1];rw [show off+(k+1)=off+k+1 by omega,this]
theorem AII (off:Nat) (v:Value) (cells:Array Value) (h:off+v.cells.size<=cells.size):
 v.cells.zipIdx.foldl (fun cs (c,j)=>cs.setIfInBounds (off+j) c) cells=(cells.toList.take off++v.cells.toList++cells.toList.drop (off+v.cells.size)).toArray:=by
 have:=uJ off v.cells.toList 0 cells (by simpa using h);simp only [CC,Oy] at this;rw [<- this,<- Array.foldl_toList];simp
theorem HJ {x y:List AV}:Aw (x++y)=(Aw x&&Aw y):=by simp [Aw]
theorem PL {x:List AV} (n:Nat) (h:Aw x=true):Aw (x.take n)=true:=by
 simp only [Aw,A8] at *;exact fun c hc=>h c (D5 hc)
theorem Ug {x:List AV} (n:Nat) (h:Aw x=true):Aw (x.drop n)=true:=by
 simp only [Aw,A8] at *;exact fun c hc=>h c (I8 hc)
theorem Uh {x:AV} (h:Aw x.cells=true):x.BE=true:=by cases x<;>first|rfl|(simp [AV.cells,Aw,AV.B8] at h)
theorem Ul (h:Bv base g lam Pr N F L σ a w0 w) (pl:Nat->Option (Nat×Nat)):∀(ps:List (Nat×Operand)) (cps:List (Nat×Nat×X)) (z:List AV) (zc:Array Value) (cs:List AV),
 VG pl ps=some cps->VRs g z zc.toList->Aw z=true->Ko z F cps=some cs->
 ∃cells,Instr.fill pl zc (ps.map fun p=>(p.1,a.eval p.2))=some cells/\VRs g cs cells.toList/\Aw cs=true
 |[],cps,z,zc,cs,hp,hz,hok,hf=>by
  simp only [VG,AL] at hp;subst hp;simp only [Ko,AL] at hf;subst hf;exact ⟨zc,rfl,hz,hok⟩
 |(i,y)::ps,cps,z,zc,cs,hp,hz,hok,hf=>by
  simp only [VG,AQ,AB] at hp;obtain ⟨⟨off,n⟩,hpl,x,hx,cps',hcps,hc⟩:=hp;cases hc;simp only [Ko] at hf;split at hf
  . rename_i hcond;simp only [AO,beq_iff_eq,decide_eq_true_eq] at hcond;obtain ⟨⟨hck,hln⟩,hle⟩:=hcond;have hsv:=(Aq hx h).vr (Uh hck);have hcells:=hsv.cells hck;have hsize:(a.eval y).cells.size=n:=by have:=hcells.length;simpa [hln] using this
    have hzl:=hz.length;have hfit:off+(a.eval y).cells.size<=zc.size:=by simp at hzl;omega
    have hz':VRs g (z.take off++(xv F x).cells++z.drop (off+n)) ((zc.toList.take off++(a.eval y).cells.toList++zc.toList.drop (off+(a.eval y).cells.size)).toArray).toList:=by
     simp only [hsize];exact ((hz.take off).append hcells).append (hz.drop (off+n))
    have hok':Aw (z.take off++(xv F x).cells++z.drop (off+n))=true:=by
     simp [HJ,PL _ hok,Ug _ hok,hck]
    obtain ⟨cells,hfill,hr,hck'⟩:=Ul h pl ps cps' _ _ cs hcps hz' hok' hf;refine ⟨cells,?_,hr,hck'⟩;have hno:¬(off+n>zc.size):=by omega
    simp only [AD,Instr.fill,hpl];rw [if_neg (by simp [hsize];omega),AII off (a.eval y) zc hfit];exact hfill
  . cases hf
theorem gJ:∀(l:List Value) (cs:List AV),cvs l=some cs->∀g:Gh,VRs g cs l/\Aw cs=true
 |[],cs,h,g=>by simp only [cvs,AL] at h;subst h;exact ⟨.nil,rfl⟩
 |v::l,cs,h,g=>by
  simp only [cvs,AQ,AB] at h;obtain ⟨c,hc,cs',hcs,he⟩:=h;cases he;obtain ⟨h1,h2⟩:=gJ l cs' hcs g;refine ⟨.cons (zW hc g) h1,?_⟩;simp only [Aw,Bk,AO];exact ⟨APZ hc,h2⟩
theorem LJ {t:TypeId} {z:List AV} (h:Vn P t=some z):∃i zv,P.info? t=some i/\i.zero=some zv/\Aw z=true/\∀g:Gh,VRs g z zv.cells.toList:=by
 simp only [Vn,AQ,AB] at h;obtain ⟨i,hi,zv,hz,hc⟩:=h;exact ⟨i,zv,hi,hz,(gJ _ _ hc ⟨fun _ _=>none,fun _=>none,fun _=>none,fun _=>none⟩).2,fun g=>(gJ _ _ hc g).1⟩
theorem AHT {t:TypeId} {z:List AV} {pl:Nat->Option (Nat×Nat)} {ps:Array (Nat×Operand)} {cps:List (Nat×Nat×X)} (hz:Vn P t=some z) (hpl:AE5 P t=some pl)
 (hp:VG pl ps.toList=some cps) (h:Bv base g lam Pr N F L σ a w0 w) {cs:List AV} (hf:Ko z F cps=some cs):
 ∃x,(Instr.build t (ps.map fun (i,x)=>(i,a.eval x))).run P w= .ok x w/\VR g (.agg cs) x:=by
 obtain ⟨i,zv,hi,hzv,hok,hvr⟩:=LJ hz;obtain ⟨cells,hfill,hr,hck⟩:=Ul h pl ps.toList cps z zv.cells cs hp (hvr g) hok hf
 have hb:P.built t (ps.map fun (i,x)=>(i,a.eval x)).toList=some cells:=by
  unfold Program.built AE5 at *;have hm:(ps.map fun (i,x)=>(i,a.eval x)).toList=ps.toList.map fun p=>(p.1,a.eval p.2):=by simp
  rw [hm];cases hu:P.underlying t with
  |none=>rw [hu] at hpl;cases hpl
  |some d=>
   rw [hu] at hpl;cases d<;>try (cases hpl;done)
   case array n e=>
    simp only [AN] at hpl;obtain ⟨ie,hie,rfl⟩:=hpl;simp only [hi,hzv,hie];exact hfill
   case struct fs=>
    simp only [AN] at hpl;obtain ⟨pp,hpp,rfl⟩:=hpl;simp only [hi,hzv,hpp];exact hfill
 refine ⟨_,run_build w t _ cells hb,?_⟩;have:cells=cells.toList.toArray:=by simp
 rw [this];simp only [Aw,A8] at hck;exact .agg hr.length hck hr.idx
theorem Bv.step (h:Bv base g lam Pr N F L σ a w0 w) (hg:g.le g') (hloc:∀k b,lam k=some b->w'.heap[b]?=w.heap[b]?)
 (hrel:Rel base g' (fun b=>Pr b\/∃k,lam k=some b) σ' w0 w'):Bv base g' lam Pr N F L σ' a w0 w':=by
 refine ⟨fun s=>(h.tm s).mono hg,h.sz,h.df,fun k cs hk=>?_,h.inj,h.npr,hrel⟩;obtain ⟨hok,b,vs,ty,hb,hlow,hheap,hr⟩:=h.loc k cs hk;exact ⟨hok,b,vs,ty,hb,hlow,by rw [hloc k b hb];exact hheap,hr.mono hg⟩
theorem Bv.NA (h:Bv base g lam Pr N F L σ a w0 w) {k b:Nat} (hk:lam k=some b):b < w.heap.size:=(h.rel.pr b (.inr ⟨k,hk⟩)).1
theorem Wi {o:Obj} (hb:base<=w.heap.size):Below base w (w.alloc o):=(Below.refl base w).alloc hb o
theorem Rel.alloc (h:Rel base g Pr σ w0 w) (o:Obj):Rel base g Pr σ w0 (w.alloc o):=
 h.grow (by simp) (fun b hb _=>heap_alloc_old w o b hb) (Wi h.bs) (fun b hp=>⟨by have:=(h.pr b hp).1;simp;omega,.inl hp⟩)
theorem GZ (size:Nat):∀(n:Nat) (l:List DV),(chunk size n l).length=n
 |0,_=>rfl
 |n+1,l=>by simp [chunk,GZ size n]
theorem Y4 (size:Nat):∀(n:Nat) (l:List DV) (i:Nat),i < n->(chunk size n l)[i]?=some ((l.drop (i * size)).take size)
 |0,_,i,h=>by omega
 |n+1,l,0,_=>by simp [chunk]
 |n+1,l,i+1,h=>by
  simp only [chunk,mM];rw [Y4 size n (l.drop size) i (by omega),FN,CK,Nat.one_mul,Nat.add_comm]
theorem Y7:∀(cs:List AV) (l:List DV),dvs cs=some l->∀vs,VRs g cs vs->l.length=cs.length/\∀(j:Nat) (x:DV),l[j]?=some x->∃v,vs[j]?=some v/\RD g.im x v
 |[],l,h,vs,hr=>by simp only [dvs,AL] at h;subst h;exact ⟨rfl,fun j x hx=>by simp at hx⟩
 |c::cs,l,h,vs,hr=>by
  simp only [dvs,AQ,AB] at h;obtain ⟨x,hx,l',hl',he⟩:=h;cases he;cases hr with
  |@cons _ v _ vs' hcv hrs=>
   obtain ⟨h1,h2⟩:=Y7 cs l' hl' vs' hrs;refine ⟨by simp [h1],fun j y hy=>?_⟩;cases j with
   |zero=>
    simp at hy;subst hy;refine ⟨v,rfl,?_⟩
    cases c<;>simp only [AV.dv,AL] at hx<;>first
     |(cases hx;done)
     |(subst hx;cases hcv with|d h=>exact h)
     |(subst hx;cases hcv;exact .nil (GW _) (fun _=>rfl))
     |(subst hx;cases hcv with|own h _ _=>exact h)
     |(subst hx;cases hcv with|clip h=>exact h)
     |(subst hx;cases hcv;exact .G4)
   |succ j=>simpa using h2 j y (by simpa using hy)
theorem RD.fresh {im:Nat->Nat->Option Value} {b n size:Nat} {l:List DV} {cells:List Value} (hl:l.length=n * size) (hn:n<=maxLen) (hc:cells.length=n * size)
 (him:∀o v,cells[o]?=some v->im b o=some v) (hr:∀(j:Nat) (x:DV),l[j]?=some x->∃v,cells[j]?=some v/\RD im x v):
 RD im (.sl (chunk size n l)) (.slice (some ⟨b,0,none⟩) n n):=by
 have hgoal:RD im (.sl (chunk size n l)) (.slice (some ⟨b,0,none⟩) (chunk size n l).length n):=by
  refine .sl (size:=size) (f:=fun i j=>cells.getD (i * size+j) (.bool false)) (by rw [GZ];exact AW _) hn ?_ ?_ ?_
  . intro r hrm;obtain ⟨i,hi,rfl⟩:=Bt hrm;rw [GZ] at hi;have:=Y4 size n l i hi;rw [BB (by rw [GZ];exact hi)] at this;rw [Option.some.inj this];rw [B4,Cm,hl];have:i * size+size<=n * size:=by rw [<- OQ];exact Bw _ hi
    omega
  . intro i j hi hj;rw [GZ] at hi;have:i * size+size<=n * size:=by rw [<- OQ];exact Bw _ hi
    have hlt:i * size+j < cells.length:=by omega
    rw [BJ];refine him _ _ ?_;simp [BB hlt]
  . intro i r j x hi hj;have hin:i < n:=by have:=(AG.1 hi).1;rwa [GZ] at this
    rw [Y4 size n l i hin] at hi;cases hi;rw [B2] at hj;split at hj
    . rw [BT] at hj;obtain ⟨v,hv,hrd⟩:=hr _ _ hj;rw [Ac,hv];exact hrd
    . cases hj
 rwa [GZ] at hgoal
theorem VRs.flatten {z:List AV} {zc:List Value} (h:VRs g z zc):∀n:Nat,VRs g (AF n z).flatten (AF n zc).flatten
 |0=>by simpa using .nil
 |n+1=>by simp only [B1,BU];exact h.append (VRs.flatten h n)
theorem KR {z:List AV} (h:Aw z=true):∀n:Nat,Aw (AF n z).flatten=true
 |0=>rfl
 |n+1=>by simp only [B1,BU,HJ,h,KR h n,Wa]
theorem range_zero (z:Array Value) (size:Nat) (hz:z.size=size) (h0:0 < size):∀n:Nat,((Wc (n * size)).map (z[· % z.size]!)).toList=(AF n z.toList).flatten
 |0=>by simp
 |n+1=>by
  have ih:=range_zero z size hz h0 n
  have e1:(AF (n+1) z.toList).flatten=(AF n z.toList).flatten++z.toList:=by
   rw [List.replicate_succ',PB];simp
  rw [e1,<- ih];simp only [Array.toList_map,Array.toList_range,CK,Nat.one_mul,List.range_add,Ay,List.map_map];congr 1;apply List.ext_getElem
  . simp [hz]
  . intro i h1 h2;simp at h1 h2;have:(n * size+i) % z.size=i:=by rw [hz,Nat.add_comm,Nat.add_mul_mod_self_right];exact Nat.mod_eq_of_lt h1
    simp [this,h2]
theorem Ea {α:Type} (l:List α):∀n:Nat,(AF n l).flatten.length=n * l.length
 |0=>by simp
 |n+1=>by simp [B1,Ea l n,CK];omega
theorem Uk (F:Fm):∀(cps:List (Nat×Nat×X)) (z cs:List AV),Ko z F cps=some cs->cs.length=z.length
 |[],z,cs,h=>by simp only [Ko,AL] at h;subst h;rfl
 |(off,n,x)::cps,z,cs,h=>by
  simp only [Ko] at h;split at h
  . rename_i hc;simp only [AO,beq_iff_eq,decide_eq_true_eq] at hc;rw [Uk F cps _ cs h];simp;omega
  . cases h
theorem AHU {t e:TypeId} {n len:Nat} {z:List AV} {ps:Array (Nat×Operand)} {cps:List (Nat×Nat×X)} (he:T3 P t=some e) (hz:Vn P e=some z) (hn:szT P e=some n)
 (hzn:z.length=n/\0 < n/\len * n<=4096/\len<=4096) (hp:VG (fun i=>some (i * n,n)) ps.toList=some cps) (h:Bv base g lam Pr N F L σ a w0 w) {cs:List AV} {l:List DV}
 (hf:Ko (AF len z).flatten F cps=some cs) (hd:dvs cs=some l):
 ∃x g' w',(Instr.buildSlice t len (ps.map fun (i,x)=>(i,a.eval x))).run P w= .ok x w'/\g.le g'/\KP Pr w w'/\VR g' (.d (.sl (chunk n len l))) x/\Bv base g' lam Pr N F L σ a w0 w':=by
 obtain ⟨hzl,h0,hsmall,hlen⟩:=hzn;obtain ⟨i,zv,hi,hzv,hok,hvr⟩:=LJ hz
 have hu:P.underlying t=some (.slice e):=by
  unfold T3 at he;split at he
  . rename_i e' hh;cases he;exact hh
  . cases he
 have hzs:zv.cells.size=n:=by have:=(hvr g).length;simp at this;omega
 have hinit:VRs g (AF len z).flatten ((Wc (len * n)).map (zv.cells[· % zv.cells.size]!)).toList:=by
  rw [range_zero zv.cells n hzs h0 len];exact (hvr g).flatten len
 obtain ⟨cells,hfill,hr,hck⟩:=Ul h _ ps.toList cps _ _ cs hp hinit (KR hok len) hf
 have hcl:cells.size=len * n:=by
  have h1:=hr.length;have h2:=Uk F cps _ cs hf;have h3:=Ea z len;simp at h1;rw [h1,h2,h3,hzl]
 have hrun:(Instr.buildSlice t len (ps.map fun (i,x)=>(i,a.eval x))).run P w= .ok (.slice (some ⟨w.heap.size,0,none⟩) len len) (w.alloc (.cells cells e)):=by
  have hm:(ps.map fun (i,x)=>(i,a.eval x)).toList=ps.toList.map fun p=>(p.1,a.eval p.2):=by simp
  have hno:¬(len * n>2 ^ 24):=Nat.not_lt.2 (Ap hsmall (by decide));unfold Instr.buildSlice;simp only [Sem.run_bind,Bm hu,Result.andThen_ok,FV hn,hm];rw [if_neg hno];by_cases h00:len * n=0
  . have hr0:Wc 0=#[]:=rfl;rw [h00,hr0] at hfill;simp only [h00,if_true,pure_bind,hr0,Array.map_empty] at hfill ⊢;simp only [hfill,Sem.run_bind,newRow,run_newObj,Result.andThen_ok,Sem.run_pure,World.alloc_eq]
  . simp only [if_neg h00,Sem.run_bind,zeroValue,typeInfo,run_program,Result.andThen_ok,hi,Sem.run_pure,hzv,hfill,newRow,run_newObj,World.alloc_eq]
 have hrel:=h.rel.settle (n:=len * n) (vs:=cells) (b:=w.heap.size) (AW _) (h.rel.alloc (.cells cells e)) (fun o=>by simp);have hle:=h.rel.Yj w.heap.size (len * n) cells (AW _);refine ⟨_,g.settle w.heap.size (len * n) cells,_,hrun,hle,⟨by simp,fun b hp=>heap_alloc_old w _ b (h.rel.pr b (.inl hp)).1⟩,?_,h.step hle (fun k b hb=>heap_alloc_old w _ b (h.NA hb)) hrel⟩;obtain ⟨hll,hrd⟩:=Y7 cs l hd _ (hr.mono hle);have h1:=hr.length;refine .d (RD.fresh (cells:=cells.toList) (by simp at h1;omega) (by simp only [maxLen];omega) (by simpa using hcl) (fun o v hv=>?_) hrd);have:o < len * n:=by have:=(AG.1 hv).1;simp at this;omega
 simp only [Gh.settle,if_true,if_pos this];simpa using hv
theorem AC2 {t:TypeId} {y:Operand} {x:X} (hx:xo y=some x) (h:Bv base g lam Pr N F L σ a w0 w) {l:List DV} (hd:dvs (xv F x).cells=some l):
 ∃z g' w',(Instr.box t (a.eval y)).run P w= .ok z w'/\g.le g'/\KP Pr w w'/\VR g' (.d (.ptr l)) z/\Bv base g' lam Pr N F L σ a w0 w':=by
 have hok:Aw (xv F x).cells=true:=by
  have:∀(cs:List AV) (l:List DV),dvs cs=some l->Aw cs=true:=by
   intro cs
   induction cs with
   |nil=>intro l h;rfl
   |cons c cs ih=>
    intro l h;simp only [dvs,AQ,AB] at h;obtain ⟨x,hx,l',hl',_⟩:=h;simp only [Aw,Bk,AO];refine ⟨?_,ih l' hl'⟩;cases c<;>first|rfl|(simp [AV.dv] at hx)
  exact this _ _ hd
 have hv:=((Aq hx h).vr (Uh hok)).cells hok;have hrun:(Instr.box t (a.eval y)).run P w= .ok (.pointer (some ⟨w.heap.size,0,none⟩)) (w.alloc (.cells (a.eval y).cells t)):=by simp [Instr.box,newVar,newRow]
 have hrel:=h.rel.settle (n:=(a.eval y).cells.size) (vs:=(a.eval y).cells) (b:=w.heap.size) (AW _) (h.rel.alloc (.cells (a.eval y).cells t)) (fun o=>by simp);have hle:=h.rel.Yj w.heap.size (a.eval y).cells.size (a.eval y).cells (AW _);refine ⟨_,g.settle w.heap.size (a.eval y).cells.size (a.eval y).cells,_,hrun,hle,⟨by simp,fun b hp=>heap_alloc_old w _ b (h.rel.pr b (.inl hp)).1⟩,?_,h.step hle (fun k b hb=>heap_alloc_old w _ b (h.NA hb)) hrel⟩;obtain ⟨hll,hrd⟩:=Y7 _ l hd _ (hv.mono hle);have h1:=hv.length;refine .d (.ptr (f:=fun j=>((a.eval y).cells.toList[j]?).getD Cu) (fun j hj=>?_) (fun j x hx=>?_))
 . have hlt:j < (a.eval y).cells.size:=by simp at h1;omega
   simp [Gh.settle,hlt]
 . obtain ⟨v,hv',hr'⟩:=hrd j x hx;rw [hv'];exact hr'
theorem UT (h:Bv base g lam Pr N F L σ a w0 w):∀(l:List Operand) (xs:List X),xos l=some xs->((xvs F xs).all AV.BE=true)->VRs g (xvs F xs) (l.map a.eval)
 |[],xs,hx,_=>by simp only [xos,AL] at hx;subst hx;exact .nil
 |y::l,xs,hx,hn=>by
  simp only [xos,AQ,AB] at hx;obtain ⟨x,hx1,xs',hxs,he⟩:=hx;cases he;simp only [xvs,AD,Bk,AO] at hn;exact .cons ((Aq hx1 h).vr hn.1) (UT h l xs' hxs hn.2)
theorem AE4 {c x y v:AV} {cvl xvl yvl:Value} (hc:SV g lam c cvl) (hx:SV g lam x xvl) (hy:SV g lam y yvl) (hv:ABE c x y=some v):
 ∃z,((do pure (.value (if <- asBool cvl then xvl else yvl)):Sem Next)).run P w= .ok (.value z) w/\SV g lam v z:=by
 cases c with
 |d c=>cases c with
  |bool b=>
   cases hc with|d hc=>
   cases hc;cases hv;cases b
   . exact ⟨yvl,by simp [asBool],by simpa using hy⟩
   . exact ⟨xvl,by simp [asBool],by simpa using hx⟩
  |_=>cases hv
 |_=>cases hv
theorem QA {t e:TypeId} (he:T3 P t=some e):P.underlying t=some (.slice e):=by
 unfold T3 at he;split at he
 . rename_i e' hh;cases he;exact hh
 . cases he
end Go.Ab
namespace Go.Ab
open Go.RowKit
variable {P:Program} {σ:AI} {F:Fm} {L:Lm}
theorem Ep {ρ:Operand->Value} {o:Oper} {s:Sem Value} (h:execOp ρ o=(do pure (.value (<- s)):Sem Next)) {w w':World} {x:Value} (hs:s.run P w= .ok x w'):
 (execOp ρ o).run P w= .ok (.value x) w':=by rw [h];simp [hs]
theorem ADC {dst:Option Tmp} {c:Call} {ty:TypeId} {pos:String} {after:Array Edge} {guard:Option (Nat×Bool)} {co:O} {v:AV} {sh:Bool} (hc:dB P sh c=some co) (hv:pv F L σ co=some v):
 VOp P ⟨dst,.call c,ty,pos,after,guard⟩ F L σ v:=by
 obtain ⟨callee,args,argTypes⟩:=c;obtain ⟨args⟩:=args;obtain ⟨argTypes⟩:=argTypes;unfold dB at hc;cases callee with
 |invoke r m=>cases hc
 |value f=>
  cases f<;>simp only at hc
  . simp only [AN] at hc;obtain ⟨xs,_,rfl⟩:=hc;simp [pv] at hv
  . cases hc
  . cases hc
  . split at hc
    . simp only [AN] at hc;obtain ⟨xs,_,rfl⟩:=hc;simp [pv] at hv
    . cases hc
 |builtin b=>
  simp only at hc;unfold ALV at hc;split at hc
  . rename_i x t;cases hu:P.underlying t with
    |none=>rw [hu] at hc;cases hc
    |some d=>
     rw [hu] at hc;cases d<;>try (cases hc;done)
     . simp only [AN] at hc;obtain ⟨xx,hx,rfl⟩:=hc
       exact .same fun base g lam Pr N a w0 w h=>by
        obtain ⟨u,hz,hs⟩:=AFR (P:=P) (w:=w) hu ty (Aq hx h) hv;exact ⟨u,by simp [execOp,resolve,invoke,builtin,hz],hs⟩
     . simp only [AN] at hc;obtain ⟨xx,hx,rfl⟩:=hc
       exact .same fun base g lam Pr N a w0 w h=>by
        obtain ⟨u,hz,hs⟩:=AJE (P:=P) (w:=w) hu ty (Aq hx h) hv;exact ⟨u,by simp [execOp,resolve,invoke,builtin,hz],hs⟩
  . simp only [AQ,AB] at hc;obtain ⟨x,hx,x2,hx2,hh⟩:=hc;cases hh
    exact .same fun base g lam Pr N a w0 w h=>by
     obtain ⟨u,hz,hs⟩:=eL (P:=P) (w:=w) (b:=true) argTypes.toArray ty (Aq hx h) (Aq hx2 h) hv;exact ⟨u,by simp only [if_true] at hz;simp [execOp,resolve,invoke,builtin,hz],hs⟩
  . simp only [AQ,AB] at hc;obtain ⟨x,hx,x2,hx2,x3,hx3,hh⟩:=hc;cases hh;simp only [pv,AB] at hv;obtain ⟨v1,hv1,hv2⟩:=hv
    exact .same fun base g lam Pr N a w0 w h=>by
     have hs1:=Aq hx h;have hs2:=Aq hx2 h;have hs3:=Aq hx3 h;obtain ⟨u,hz,hs⟩:=eL (P:=P) (w:=w) (b:=true) argTypes.toArray ty hs1 hs2 hv1;obtain ⟨u2,hz2,hs'⟩:=eL (P:=P) (w:=w) (b:=true) argTypes.toArray ty hs hs3 hv2;refine ⟨u2,?_,hs'⟩;simp only [if_true,Builtin.max_] at hz hz2;simp only [OP,List.foldlM_nil,bind_pure] at hz hz2;simp [execOp,resolve,invoke,builtin,Builtin.max_,hz,hz2]
  . simp only [AQ,AB] at hc;obtain ⟨x,hx,x2,hx2,hh⟩:=hc;cases hh
    exact .same fun base g lam Pr N a w0 w h=>by
     obtain ⟨u,hz,hs⟩:=eL (P:=P) (w:=w) (b:=false) argTypes.toArray ty (Aq hx h) (Aq hx2 h) hv;exact ⟨u,by simp only [A3,if_false] at hz;simp [execOp,resolve,invoke,builtin,hz],hs⟩
  . simp only [AQ,AB] at hc;obtain ⟨e,_,i,_,z,_,hh⟩:=hc;split at hh
    . simp only [AB] at hh;obtain ⟨xl,_,xc,_,hh⟩:=hh;cases sh
      . cases hh;simp [pv] at hv
      . cases hh;simp [pv] at hv
    . cases hh
  . cases hc
theorem AN5 {sh im lc:Bool} {o:Oper} {c:O} {v:AV} (hc:tT P sh im lc o.op=some c) (hv:pv F L σ c=some v):VOp P o F L σ v:=by
 obtain ⟨dst,op,ty,pos,after,guard⟩:=o;cases op<;>simp only [tT] at hc
 case move y=>
  simp only [AN] at hc;obtain ⟨x,hx,rfl⟩:=hc;simp only [pv,AL] at hv;subst hv;exact .same fun base g lam Pr N a w0 w h=>⟨a.eval y,by simp [execOp],Aq hx h⟩
 case assign y=>
  simp only [AN] at hc;obtain ⟨x,hx,rfl⟩:=hc;simp only [pv,AL] at hv;subst hv;exact .same fun base g lam Pr N a w0 w h=>⟨a.eval y,by simp [execOp],Aq hx h⟩
 case pick c y z=>
  simp only [AQ,AB] at hc;obtain ⟨xc,h1,xy,h2,xz,h3,he⟩:=hc;cases he;exact .same fun base g lam Pr N a w0 w h=>AE4 (Aq h1 h) (Aq h2 h) (Aq h3 h) hv
 case alloc t=>
  simp only [AN] at hc;obtain ⟨z,hz,rfl⟩:=hc;simp [pv] at hv
 case box t y=>
  simp only [AN] at hc;obtain ⟨z,hz,rfl⟩:=hc;cases im
  . simp [pv] at hv
  . simp only [if_true,pv,AN] at hv;obtain ⟨l,hl,rfl⟩:=hv;intro base g lam Pr N a w0 w h;obtain ⟨x,g',w',hr,h1,h2,h3,h4⟩:=AC2 (P:=P) (t:=t) hz h hl;exact ⟨x,g',w',Ep rfl hr,h1,h2,SV.Fk h3,h4⟩
 case field s y f=>
  simp only [AQ,AB] at hc;obtain ⟨x,hx,off,ho,n,hn,he⟩:=hc;cases he
  exact .same fun base g lam Pr N a w0 w h=>by
   obtain ⟨z,hz,hs⟩:=AMH (P:=P) (w:=w) ho hn (Aq hx h) hv;exact ⟨z,Ep rfl hz,SV.Fk hs⟩
 case slice t y lo hi mx=>
  cases hu:P.underlying t with
  |none=>rw [hu] at hc;cases hc
  |some d=>
   rw [hu] at hc;cases d<;>try (cases hc;done)
   . cases mx with
     |some _=>cases hc
     |none=>
      simp only [AQ,AB] at hc;obtain ⟨x,hx,xl,hxl,xh,hxh,hh⟩:=hc;cases hh
      exact .same fun base g lam Pr N a w0 w h=>by
       obtain ⟨z,hz,hs⟩:=AKN (P:=P) (w:=w) hu (Aq hx h) (UR hxl h) (UR hxh h) hv;exact ⟨z,Ep rfl hz,SV.Fk hs⟩
   . rename_i e;cases sh
     . simp only [A3,if_false,AQ,AB] at hc;obtain ⟨x,hx,xl,hxl,xh,hxh,xm,hxm,sz,hsz,hh⟩:=hc;cases hh
       exact .same fun base g lam Pr N a w0 w h=>by
        obtain ⟨z,hz,hs⟩:=AKM (P:=P) (w:=w) hu hsz (Aq hx h) (UR hxl h) (UR hxh h) (UR hxm h) hv;exact ⟨z,Ep rfl hz,SV.Fk hs⟩
     . simp only [if_true] at hc;obtain ⟨rfl,z,rfl,rfl,x,xh,sz,_,_,_,rfl⟩:=vN hc;simp [pv] at hv
 case fieldAddr s y f=>
  simp only [AQ,AB] at hc;obtain ⟨x,hx,off,ho,he⟩:=hc;cases he
  exact .same fun base g lam Pr N a w0 w h=>by
   obtain ⟨z,hz,hs⟩:=AIN (P:=P) (w:=w) ho (Aq hx h) hv;exact ⟨z,Ep rfl hz,hs⟩
 case load t y=>
  simp only [AQ,AB] at hc;obtain ⟨x,hx,n,hn,he⟩:=hc
  have hv2:ldA L σ (xv F x) n=some v:=by
   cases lc
   . cases he;exact hv
   . cases he;have hv:xF L (xv F x) n=some v:=hv;cases hxx:xv F x<;>rw [hxx] at hv<;>simp only [xF] at hv<;>try (cases hv;done)
     exact hv
  exact .same fun base g lam Pr N a w0 w h=>by
   obtain ⟨z,hz,hs⟩:=AA0 hn h (Aq hx h) hv2;exact ⟨z,Ep rfl hz,SV.Fk hs⟩
 case store t y z=>
  simp only [AQ,AB] at hc;obtain ⟨x,hx,x2,hx2,n,hn,he⟩:=hc;cases he;simp [pv] at hv
 case indexAddr t y i=>
  simp only [AQ,AB] at hc;obtain ⟨x,hx,xi,hxi,e,he,n,hn,hh⟩:=hc;cases hh
  exact .same fun base g lam Pr N a w0 w h=>by
   obtain ⟨z,hz,hs⟩:=AMW (P:=P) (w:=w) he hn (Aq hx h) (Aq hxi h) hv;exact ⟨z,Ep rfl hz,hs⟩
 case index t y i=>
  cases hu:P.underlying t with
  |none=>rw [hu] at hc;cases hc
  |some d=>
   rw [hu] at hc;cases d<;>try (cases hc;done)
   simp only [AQ,AB] at hc;obtain ⟨x,hx,xi,hxi,hh⟩:=hc;cases hh
   exact .same fun base g lam Pr N a w0 w h=>by
    obtain ⟨z,hz,hs⟩:=AFP (P:=P) (w:=w) hu (Aq hx h) (Aq hxi h) hv;exact ⟨z,Ep rfl hz,hs⟩
 case binOp op t y z t2=>
  cases hu:P.underlying t with
  |none=>rw [hu] at hc;cases hc
  |some d=>
   rw [hu] at hc;cases d<;>try (cases hc;done)
   case bool=>
    simp only [AQ,AB] at hc;obtain ⟨x,hx,xi,hxi,hh⟩:=hc;cases hh
    exact .same fun base g lam Pr N a w0 w h=>by
     obtain ⟨u,hz,hs⟩:=AC1 (P:=P) (w:=w) hu y z (Aq hx h) (Aq hxi h) hv;exact ⟨u,Ep rfl hz,hs⟩
   case pointer e=>
    obtain ⟨rfl,ne,x,hop,hx,rfl⟩:=pT hc
    exact .same fun base g lam Pr N a w0 w h=>by
     obtain ⟨u,hz,hs⟩:=AE9 (P:=P) (w:=w) (op:=op) hu hop y (.const (.pointer none)) (Aq hx h) hv;exact ⟨u,Ep rfl hz,hs⟩
   case struct fs=>
    have hc:(if To P t then vK op fs.size y z else none)=some c:=hc;split at hc
    . rename_i his;obtain ⟨ne,x,xi,hop,hx,hxi,rfl⟩:=qU hc
      exact .same fun base g lam Pr N a w0 w h=>by
       obtain ⟨u,hz,hs⟩:=AFW (P:=P) (w:=w) hu his hop y z (Aq hx h) (Aq hxi h) hv;exact ⟨u,Ep rfl hz,hs⟩
    . cases hc
   all_goals
    simp only [AQ,AB] at hc;obtain ⟨x,hx,xi,hxi,hh⟩:=hc;cases hh
    exact .same fun base g lam Pr N a w0 w h=>by
     obtain ⟨u,hz,hs⟩:=AHS (P:=P) (w:=w) (t:=t) y z (Aq hx h) (Aq hxi h) hv;exact ⟨u,Ep rfl hz,hs⟩
 case unOp op t y=>
  simp only [AQ,AB] at hc;obtain ⟨x,hx,hh⟩:=hc;cases hh
  exact .same fun base g lam Pr N a w0 w h=>by
   obtain ⟨u,hz,hs⟩:=AO4 (P:=P) (w:=w) (Aq hx h) hv;exact ⟨u,Ep rfl hz,hs⟩
 case convert s t y=>
  cases hu:P.underlying s with
  |none=>rw [hu] at hc;cases hc
  |some d=>
   rw [hu] at hc;cases d<;>try (cases hc;done)
   cases hu2:P.underlying t with
   |none=>rw [hu2] at hc;cases hc
   |some d2=>
    rw [hu2] at hc;cases d2<;>try (cases hc;done)
    simp only [AQ,AB] at hc;obtain ⟨x,hx,hh⟩:=hc;cases hh
    exact .same fun base g lam Pr N a w0 w h=>by
     obtain ⟨u,hz,hs⟩:=ADP (P:=P) (w:=w) hu hu2 (Aq hx h) hv;exact ⟨u,Ep rfl hz,hs⟩
 case build t ps=>
  simp only [AQ,AB] at hc;obtain ⟨z,hz,pl,hpl,cps,hcps,hh⟩:=hc;cases hh;simp only [pv,AN] at hv;obtain ⟨cs,hcs,rfl⟩:=hv
  exact .same fun base g lam Pr N a w0 w h=>by
   obtain ⟨u,hu,hs⟩:=AHT hz hpl hcps h hcs;exact ⟨u,Ep rfl hu,SV.Fk hs⟩
 case buildSlice t len ps=>
  simp only [AQ,AB] at hc;obtain ⟨e,he,z,hz,n,hn,hh⟩:=hc;split at hh
  . rename_i hcond;simp only [AB] at hh;obtain ⟨cps,hcps,hh⟩:=hh
    have hv2:pv F L σ (.bsl n len (AF len z).flatten cps)=some v:=by
     cases sh
     . cases hh;exact hv
     . cases hh;simp [pv] at hv
    simp only [pv,AN,AB] at hv2;obtain ⟨l,⟨cs,hcs,hl⟩,rfl⟩:=hv2;intro base g lam Pr N a w0 w h;obtain ⟨x,g',w',hr,h1,h2,h3,h4⟩:=AHU he hz hn hcond hcps h hcs hl;exact ⟨x,g',w',Ep rfl hr,h1,h2,SV.Fk h3,h4⟩
  . cases hh
 case makeFunc fn first caps=>
  cases fn<;>simp only [AQ,AB] at hc<;>try (cases hc;done)
  rename_i f;obtain ⟨xf,hxf,xc,hxc,hh⟩:=hc;cases hh;simp only [pv] at hv;split at hv
  . rename_i hn;cases hv;simp only [List.all_append,AO] at hn
    exact .same fun base g lam Pr N a w0 w h=>by
     have h1:=UT h first.toList xf hxf hn.1;have h2:=UT h caps.toList xc hxc hn.2;refine ⟨.func (.func f) (first.map a.eval) (caps.map a.eval),by simp [execOp,Instr.makeFunc],SV.Fk ?_⟩;have e1:first.map a.eval=(first.toList.map a.eval).toArray:=Array.ext' (by simp);have e2:caps.map a.eval=(caps.toList.map a.eval).toArray:=Array.ext' (by simp);rw [e1,e2];exact .fn h1.length h2.length h1.idx h2.idx
  . cases hv
 case extract y i=>
  simp only [AN] at hc;obtain ⟨x,hx,rfl⟩:=hc
  exact .same fun base g lam Pr N a w0 w h=>by
   obtain ⟨u,hz,hs⟩:=AIF (P:=P) (w:=w) (Aq hx h) hv;exact ⟨u,Ep rfl hz,SV.Fk hs⟩
 case nilCheck y=>
  simp only [AN] at hc;obtain ⟨x,hx,rfl⟩:=hc;simp only [pv] at hv
  exact .same fun base g lam Pr N a w0 w h=>by
   have hs:=Aq hx h
   have key:∀p:Addr,a.eval y= .pointer (some p)->(execOp a.eval ⟨dst,.nilCheck y,ty,pos,after,guard⟩).run P w= .ok (.value (.pointer (some p))) w:=by
    intro p hp;simp only [execOp,hp];rfl
   generalize a.eval y=vy at hs key;cases hxv:xv F x<;>rw [hxv] at hv hs<;>simp only [ANF,AL] at hv<;>try (cases hv;done)
   . rename_i dx;cases dx<;>simp only [AL] at hv<;>try (cases hv;done)
     subst hv;cases hs with|d hs=>cases hs with|ptr hi hr=>exact ⟨_,key _ rfl,.d (.ptr hi hr)⟩
   . subst hv;obtain ⟨b,hb,rfl⟩:=hs;exact ⟨_,key _ rfl,b,hb,rfl⟩
   . subst hv;cases hs with|gp hm=>exact ⟨_,key _ rfl,.gp hm⟩
   . subst hv;cases hs with|ep hi hr=>exact ⟨_,key _ rfl,.ep hi hr⟩
 case makeSlice t l c=>
  simp only [AQ,AB] at hc;obtain ⟨e,he,i,hi,z,hz,hh⟩:=hc;split at hh
  . simp only [AB] at hh;obtain ⟨xl,_,xc,_,hh⟩:=hh;cases hh;simp [pv] at hv
  . cases hh
 case call c=>exact ADC hc hv
 all_goals (cases hc;done)
end Go.Ab
namespace Go.Ab
open Go.RowKit
variable {P:Program} {base N:Nat} {g g':Gh} {Pr:Nat->Prop} {σ σ':AI} {w0 w w':World} {lam:Nat->Option Nat} {F:Fm} {L:Lm} {a:Act}
def AVK (k:Nat) (F:Fm):Prop:=∀s off,s≠k->F s≠.lp k off
def U:Fm:=fun _=>.undef
def AV.BV (k:Nat):AV->Bool
 | .lp k' _=>k'==k
 |_=>false
def Du (k:Nat) (F:Fm):Fm:=fun s=>if (F s).BV k then .undef else F s
theorem ACS (k:Nat) (F:Fm):AVK k (Du k F):=by
 intro s off _ he;simp only [Du] at he;split at he
 . cases he
 . rename_i h;rw [he] at h;simp [AV.BV] at h
theorem AAH (a:Act) (d s:Nat) (v:Value) (hd:d < a.tmps.size):(a.put (some d) v).tmps.getD s Cu=if s=d then v else a.tmps.getD s Cu:=by
 simp only [Act.put];by_cases e:s=d
 . subst e;simp [Array.getD,hd]
 . rw [if_neg e];simp [DR,Array.getElem?_setIfInBounds_ne (A9 e)]
theorem Bv.put (h:Bv base g lam Pr N F L σ a w0 w) {d:Nat} (hd:d < N) {v:AV} {x:Value} (hv:SV g lam v x):
 Bv base g lam Pr N (put d v F) L σ (a.put (some d) x) w0 w:=by
 refine ⟨fun s=>?_,by simpa [Act.put] using h.sz,h.df,h.loc,h.inj,h.npr,h.rel⟩;rw [AAH a d s x (by rw [h.sz];exact hd)];simp only [Ab.put];split
 . exact hv
 . exact h.tm s
theorem Bv.BS (h:Bv base g lam Pr N F L σ a w0 w) {d:Option Nat} (hd:∀k,d=some k->k < N) {v:AV} {x:Value} (hv:SV g lam v x):
 Bv base g lam Pr N (BS d v F) L σ (a.put d x) w0 w:=by
 cases d with
 |none=>exact h
 |some d=>exact h.put (hd d rfl) hv
theorem Bv.ANH (h:Bv base g lam Pr N F L σ a w0 w) {d:Nat} (hd:d < N) (hn:AVK d F) {cs:List AV} {vs:Array Value} (ty:TypeId) (hr:VRs g cs vs.toList) (hok:Aw cs=true):
 Bv base g (fun k=>if k=d then some w.heap.size else lam k) Pr N (Ab.put d (.lp d 0) F) (Am d cs L) σ (a.put (some d) (.pointer (some ⟨w.heap.size,0,none⟩))) w0 (w.alloc (.cells vs ty)):=by
 have hlt:∀k b,lam k=some b->b < w.heap.size:=fun k b hb=>h.NA hb;refine ⟨fun s=>?_,by simpa [Act.put] using h.sz,h.df,fun k cs' hk=>?_,fun k k' b hk hk'=>?_,fun k b hk hp=>?_,?_⟩
 . rw [AAH a d s _ (by rw [h.sz];exact hd)];simp only [Ab.put];split
   . exact ⟨w.heap.size,by simp,rfl⟩
   . rename_i hs;have ht:=h.tm s;cases hF:F s<;>rw [hF] at ht<;>try exact ht
     rename_i k off;have hk:k≠d:=fun e=>hn s off hs (e ▸ hF);obtain ⟨b,hb,he⟩:=ht;exact ⟨b,by simp [hk,hb],he⟩
 . simp only [Am] at hk;split at hk
   . rename_i e;subst e;cases hk;exact ⟨hok,w.heap.size,vs,ty,by simp,h.rel.bs,heap_alloc_new w _,hr⟩
   . rename_i e;obtain ⟨hok',b,vs',ty',hb,hlow,hheap,hr'⟩:=h.loc k cs' hk;exact ⟨hok',b,vs',ty',by simp [e,hb],hlow,by rw [heap_alloc_old w _ b (hlt k b hb)];exact hheap,hr'⟩
 . by_cases e:k=d<;>by_cases e':k'=d<;>simp only [e,e',if_true,if_false] at hk hk'
   . omega
   . have:=hlt _ _ hk';cases hk;omega
   . have:=hlt _ _ hk;cases hk';omega
   . exact h.inj k k' b hk hk'
 . by_cases e:k=d
   . simp only [e,if_true] at hk;cases hk;have:=(h.rel.pr _ (.inl hp)).1;omega
   . simp only [e,if_false] at hk;exact h.npr k b hk hp
 . refine h.rel.grow (by simp) (fun b hb _=>heap_alloc_old w _ b hb) (Wi h.rel.bs) fun b hb=>?_;rcases hb with hp|⟨k,hk⟩
   . exact ⟨by have:=(h.rel.pr b (.inl hp)).1;simp;omega,.inl (.inl hp)⟩
   . by_cases e:k=d
     . simp only [e,if_true] at hk;cases hk;exact ⟨by simp,.inr (AW _)⟩
     . simp only [e,if_false] at hk;exact ⟨by have:=hlt k b hk;simp;omega,.inl (.inr ⟨k,hk⟩)⟩
def wr (cs:List AV) (o:Nat) (new:List AV):List AV:=cs.take o++new++cs.drop (o+new.length)
def stA (L:Lm) (σ:AI) (new:List AV):AV->Option (Lm×AI)
 | .lp k o=>(L k).bind fun cs=>if o+new.length<=cs.length then some (Am k (wr cs o new) L,σ) else none
 | .gp i o=>(σ.blk i).bind fun cs=>if o+new.length<=cs.length then some (L,σ.AP i (wr cs o new)) else none
 |_=>none
theorem AR1 {α:Type} (arr vs:List α) (o n:Nat) (h:o+vs.length<=n) (hn:n<=arr.length):(arr.take o++vs++arr.drop (o+vs.length)).take n=(arr.take n).take o++vs++(arr.take n).drop (o+vs.length):=by
 have h1:(arr.take o).length=o:=by simp;omega
 have h2:((arr.take n).take o).length=o:=by simp;omega
 refine FO fun i=>?_;rw [B2];by_cases hi:i < n
 . rw [if_pos hi];by_cases h3:i < o
   . rw [Az,Az,BQ (by omega),BQ (by omega),B2,B2,B2,if_pos h3,if_pos h3,if_pos hi]
   . by_cases h4:i < o+vs.length
     . have h5:(arr.take o++vs).length=o+vs.length:=by rw [AX,h1]
       have h6:((arr.take n).take o++vs).length=o+vs.length:=by rw [AX,h2]
       rw [BQ (l₁:=arr.take o++vs) (by omega),BQ (l₁:=(arr.take n).take o++vs) (by omega),BL (by omega),BL (by omega),h1,h2]
     . have h5:(arr.take o++vs).length=o+vs.length:=by rw [AX,h1]
       have h6:((arr.take n).take o++vs).length=o+vs.length:=by rw [AX,h2]
       rw [BL (by omega),BL (by omega),BT,BT,B2,h5,h6,if_pos (by omega)]
 . rw [if_neg hi,B9];simp only [AX,h2,Cm,B4];omega
theorem cR {b:Nat} {cs:Array Value} (hb:base<=b):Below base w (w.setRow b cs):=
 ⟨rfl,rfl,rfl,by simp,fun k hk=>setRow_other w b k cs (by omega)⟩
theorem Bv.store (h:Bv base g lam Pr N F L σ a w0 w) {new:List AV} {vs:List Value} {p:AV} {pvl:Value} (hp:SV g lam p pvl) (hr:VRs g new vs) (hok:Aw new=true)
 {L':Lm} {σ':AI} (hst:stA L σ new p=some (L',σ')):
 ∃ad w',pvl= .pointer (some ad)/\(storeCells ad vs).run P w= .ok () w'/\KP Pr w w'/\Bv base g lam Pr N F L' σ' a w0 w':=by
 have hones:=hr.AWK hok;have hlen:=hr.length;cases p with
 |lp k o=>
  obtain ⟨b,hb,rfl⟩:=hp;simp only [stA,AB] at hst;obtain ⟨cs,hcs,hst⟩:=hst;split at hst
  . rename_i hle;cases hst;obtain ⟨hokc,b',arr,ty,hb',hlow,hheap,hrc⟩:=h.loc k cs hcs;rw [hb] at hb';cases hb';have hal:=hrc.length;have hrun:=run_storeCells_at P b o ty vs 0 arr w hheap (by simp at hal;omega) hones;simp only [CC] at hrun;refine ⟨_,_,rfl,hrun,⟨by simp,fun b2 hp2=>setRow_other w b b2 _ (fun e=>h.npr k b hb (e ▸ hp2))⟩,?_⟩;refine ⟨h.tm,h.sz,h.df,fun k2 cs2 hk2=>?_,h.inj,h.npr,?_⟩
    . simp only [Am] at hk2;split at hk2
      . rename_i e;subst e;cases hk2;refine ⟨by simp [wr,HJ,PL _ hokc,Ug _ hokc,hok],b,_,ty,hb,hlow,setRow_heap w b arr _ ty _ hheap,?_⟩;simp only [wr,hlen];exact ((hrc.take o).append hr).append (hrc.drop _)
      . rename_i e;obtain ⟨hok2,b2,vs2,ty2,hb2,hlow2,hheap2,hr2⟩:=h.loc k2 cs2 hk2;exact ⟨hok2,b2,vs2,ty2,hb2,hlow2,by rw [setRow_other w b b2 _ (fun e'=>e (h.inj k2 k b (e' ▸ hb2) hb))];exact hheap2,hr2⟩
    . exact h.rel.grow (by simp) (fun b2 _ hn=>setRow_other w b b2 _ (fun e=>hn (.inr ⟨k,e ▸ hb⟩))) (cR hlow)
       (fun b2 hb2=>⟨by have:=(h.rel.pr b2 hb2).1;simpa using this,.inl hb2⟩)
  . cases hst
 |gp i o=>
  simp only [stA,AB] at hst;obtain ⟨cs,hcs,hst⟩:=hst;split at hst
  . rename_i hle;cases hst;obtain ⟨b,hm,ho⟩:=h.rel.shr i cs hcs;obtain ⟨arr,ty,hheap,hle0,hrt,hrc⟩:=ho.row;cases hp with
    |gp hm'=>
     rw [hm] at hm';cases hm';have hrun:=run_storeCells_at P b o ty vs 0 arr w hheap (by omega) hones;simp only [CC] at hrun;have hpr:¬(Pr b\/∃k,lam k=some b):=ho.pr;refine ⟨_,_,rfl,hrun,⟨by simp,fun b2 hp2=>setRow_other w b b2 _ (fun e=>hpr (.inl (e ▸ hp2)))⟩,?_⟩;refine h.step (Gh.le_refl g) (fun k b2 hk=>setRow_other w b b2 _ (fun e=>hpr (.inr ⟨k,e ▸ hk⟩))) ?_;have hwl:(wr cs o new).length=cs.length:=by simp [wr];omega
     refine h.rel.write hcs hm (by simp) (fun k _ hk=>setRow_other w b k _ hk) (cR ho.low) (setRow_heap w b arr _ ty _ hheap) (by rw [hwl];simp;omega) (fun t ht=>⟨by rw [<- (hrt t ht).1];simp;omega,(hrt t ht).2⟩) ?_ (by simp [wr,HJ,PL _ ho.ok,Ug _ ho.ok,hok]);rw [hwl];have e:=AR1 arr.toList vs o cs.length (by omega) (by simpa using hle0);simp only [List.toList_toArray];rw [e];simp only [wr,hlen];exact ((hrc.take o).append hr).append (hrc.drop _)
  . cases hst
 |_=>simp [stA] at hst
def aF (σ:AI) (e size:Nat):AV->Option (List (List DV)×AI)
 | .Ae=>some ([],σ)
 | .own t e' s' rows=>if e'=e/\s'=size/\σ.tok t=true then some (rows,σ.Eo t) else none
 |_=>none
theorem oA {size:Nat}:∀(rows:List (List DV)),(∀r∈rows,r.length=size)->∀(i j:Nat) (r:List DV) (x:DV),rows[i]?=some r->r[j]?=some x->(rows.flatten)[i * size+j]?=some x
 |[],_,i,j,r,x,hi,_=>by simp at hi
 |r0::rows,hs,0,j,r,x,hi,hj=>by
  simp at hi;subst hi;have:=(AG.1 hj).1;simp only [OR,BJ,BU];rw [BQ this];exact hj
 |r0::rows,hs,i+1,j,r,x,hi,hj=>by
  have h0:r0.length=size:=hs r0 (by simp);simp only [BU];rw [BL (by rw [h0,OQ];omega),h0];have:(i+1) * size+j - size=i * size+j:=by rw [OQ];omega
  rw [this];exact oA rows (fun r hr=>hs r (by simp [hr])) i j r x (by simpa using hi) hj
theorem G1 {size:Nat}:∀(rows:List (List DV)),(∀r∈rows,r.length=size)->rows.flatten.length=rows.length * size
 |[],_=>by simp
 |r0::rows,hs=>by
  simp only [BU,AX,A1,OQ];rw [G1 rows (fun r hr=>hs r (by simp [hr])),hs r0 (by simp)];omega
theorem RD.cellsOf {im:Nat->Nat->Option Value} {rows:List (List DV)} {size:Nat} (hs:∀r∈rows,r.length=size) {b off len cap:Nat}
 (h:RD im (.sl rows) (.slice (some ⟨b,off,none⟩) len cap)) (h0:0 < rows.length):∃vs:List Value,vs.length=rows.length * size/\len=rows.length/\
   (∀(j:Nat) (u:Value),vs[j]?=some u->im b (off+j)=some u)/\(∀(j:Nat) (x:DV),rows.flatten[j]?=some x->∃v,vs[j]?=some v/\RD im x v):=by
 cases h with
 |nil=>simp at h0
 |@sl _ _ _ _ size' f hc hm hs' hi hr=>
  have hsz:size'=size:=by
   obtain ⟨r,hr⟩:∃r,r∈rows:=by cases rows with|nil=>simp at h0|cons r _=>exact ⟨r,by simp⟩
   rw [<- hs r hr,hs' r hr]
  subst hsz;by_cases hz:size'=0
  . subst hz;refine ⟨[],by simp,rfl,by simp,fun j x hx=>?_⟩;have:=G1 rows hs;have:=(AG.1 hx).1;omega
  have hpos:0 < size':=Nat.pos_of_ne_zero hz;refine ⟨(BA (rows.length * size')).map fun j=>f (j / size') (j % size'),by simp,rfl,fun j u hj=>?_,fun j x hx=>?_⟩
  . rw [Aj,AN] at hj;obtain ⟨j',hj',rfl⟩:=hj
    have hlt:j < rows.length * size':=by
     rcases C7 j (rows.length * size') with h1|h1
     . exact h1
     . simp [h1] at hj'
    rw [ED hlt] at hj';cases hj';have h1:j / size' < rows.length:=(Nat.div_lt_iff_lt_mul hpos).2 hlt;have h2:j % size' < size':=Nat.mod_lt _ hpos;have:=hi (j / size') (j % size') h1 h2;rw [Wb,Nat.mul_comm,Nat.div_add_mod] at this;exact this
  . have hlt:j < rows.length * size':=by rw [<- G1 rows hs];exact (AG.1 hx).1
    refine ⟨f (j / size') (j % size'),by rw [Aj,ED hlt];rfl,?_⟩;have h1:j / size' < rows.length:=(Nat.div_lt_iff_lt_mul hpos).2 hlt;have h2:j % size' < size':=Nat.mod_lt _ hpos;have hrow:rows[j / size']?=some rows[j / size']:=by simp [h1]
    have hcell:(rows[j / size'])[j % size']?=some ((rows[j / size'])[j % size']'(by rw [hs' _ (H8 h1)];exact h2)):=by
     have hh:j % size' < (rows[j / size']).length:=by rw [hs' _ (H8 h1)];exact h2
     simp [hh]
    have:=oA rows hs' _ _ _ _ hrow hcell;rw [Nat.mul_comm,Nat.div_add_mod,hx] at this;cases this;exact hr _ _ _ _ hrow hcell
theorem RD.ANR {im:Nat->Nat->Option Value} {rows:List (List DV)} {size b off cap:Nat} {ys:List Value} (hs:∀r∈rows,r.length=size) (hc:rows.length<=cap) (hm:cap<=maxLen)
 (hl:ys.length=rows.length * size) (him:∀(j:Nat) (u:Value),ys[j]?=some u->im b (off+j)=some u)
 (hr:∀(j:Nat) (x:DV),rows.flatten[j]?=some x->∃v,ys[j]?=some v/\RD im x v):RD im (.sl rows) (.slice (some ⟨b,off,none⟩) rows.length cap):=by
 refine .sl (size:=size) (f:=fun i j=>ys.getD (i * size+j) (.bool false)) hc hm hs (fun i j hi hj=>?_) (fun i r j x hi hj=>?_)
 . have:i * size+size<=rows.length * size:=by rw [<- OQ];exact Bw _ hi
   have hlt:i * size+j < ys.length:=by omega
   rw [Wb];exact him _ _ (by simp [BB hlt])
 . obtain ⟨v,hv,hrd⟩:=hr _ _ (oA rows hs i j r x hi hj);rw [Ac,hv];exact hrd
theorem ARK {e size n:Nat} {v:Value} {xs:List Value} (h:w.ownsRow base e size v n xs) {rows:List (List DV)} {im:Nat->Nat->Option Value} (hr:RD im (.sl rows) v):n=rows.length:=by
 obtain ⟨ad,cap,rfl,_⟩:=hr.Q8;rcases h.2 with ⟨he,rfl⟩|⟨gg,cap',cur,he,_⟩
 . simp only [Value.slice.injEq] at he;exact he.2.1.symm
 . simp only [Value.slice.injEq] at he;exact he.2.1.symm
theorem AHO {t ty e:TypeId} {i:TypeInfo} {z:Value} (ht:P.underlying t=some (.slice e)) (hi:P.info? e=some i) (hz:i.zero=some z) (hzs:z.cells.size=i.size)
 (h:Bv base g lam Pr N F L σ a w0 w) {p q:AV} {pvl qvl:Value} (hp:SV g lam p pvl) (hq:SV g lam q qvl) {rows srows:List (List DV)} {σ1:AI}
 (hpa:aF σ e i.size p=some (rows,σ1)) (hqr:q.rows=some srows) (hss:∀r∈srows,r.length=i.size)
 (h63:rows.length+srows.length<=maxLen) (hby:(rows.length+srows.length) * i.bytes<=140737488355328):
 ∃x g' w' t',(Builtin.append_ #[t,t] ty #[pvl,qvl]).run P w= .ok x w'/\g.le g'/\KP Pr w w'/\σ.tok t'=false/\VR g' (.own t' e i.size (rows++srows)) x/\
  Bv base g' lam Pr N F L (σ1.Cw t') a w0 w':=by
 obtain ⟨t',_,htau,_,htok⟩:=h.rel.fresh
 -- the owner
 have hmine:∃xs,yU base g (fun b=>Pr b\/∃k,lam k=some b) σ1 w e i.size pvl rows.length xs/\σ1.le σ/\(∀r∈rows,r.length=i.size)/\
  (∀(j:Nat) (x:DV),rows.flatten[j]?=some x->∃v,xs[j]?=some v/\RD g.im x v):=by
  unfold aF at hpa;split at hpa
  . cases hpa;cases hp;exact ⟨[],yU.nil _ _ _ _ _ _ _,AI.le_refl _,by simp,by simp⟩
  . split at hpa
    . rename_i hcond;obtain ⟨rfl,rfl,htk⟩:=hcond;cases hpa;cases hp with
      |own hrd htau2 hsz=>
       obtain ⟨n,xs,hm⟩:=h.rel.AXL htk htau2 (by cases hrd<;>rfl);have hn:=ARK hm.1 hrd;subst hn;refine ⟨xs,hm,AI.uB _ _,hsz,fun j x hx=>?_⟩;have hpos:0 < rows.length:=by cases rows with|nil=>simp at hx|cons=>simp
       rcases hm.1.2 with ⟨_,h0⟩|⟨gg,cap,cur,rfl,hbg,hgg,_⟩
       . omega
       obtain ⟨vs,hvl,_,hvi,hvr⟩:=RD.cellsOf hsz hrd hpos;obtain ⟨v,hv,hrdv⟩:=hvr j x hx;refine ⟨v,?_,hrdv⟩;have hlt:j < xs.length:=by rw [hm.1.1,<- hvl];exact (AG.1 hv).1
       have h1:=h.rel.im _ _ _ (hvi j v hv);have h2:=hm.1.cells (g:=gg) rfl j xs[j] (by simp [hlt]);rw [Addr.add_lit,BJ] at h2;rw [BJ] at h1;rw [h1] at h2;cases h2;simp [hlt]
    . cases hpa
  . cases hpa
 obtain ⟨xs,hmine,hle1,hsz,hxs⟩:=hmine
 -- the source
 have hsrc:∃(m:Nat) (news:List Value) (v':Value) (w':World),(Builtin.append_ #[t,t] ty #[pvl,qvl]).run P w= .ok v' w'/\m=srows.length/\news.length=m * i.size/\
  w'.ownsRow base e i.size v' (rows.length+m) (xs++news)/\w.grownBy w' v'.ownBlock/\(∀k,v'.ownBlock=some k->pvl.ownBlock=some k\/w.heap.size<=k)/\
  (∀(j:Nat) (x:DV),srows.flatten[j]?=some x->∃v,news[j]?=some v/\RD g.im x v):=by
  have hqd:RD g.im (.sl srows) qvl:=by
   cases q with
   |d x=>cases x<;>simp only [AV.rows,AL] at hqr<;>try (cases hqr;done)
         subst hqr;cases hq with|d h=>exact h
   |Ae=>simp only [AV.rows,AL] at hqr;subst hqr;cases hq;exact .nil (GW _) (fun _=>rfl)
   |own _ _ _ _=>simp only [AV.rows,AL] at hqr;subst hqr;cases hq with|own h _ _=>exact h
   |clip _=>simp only [AV.rows,AL] at hqr;subst hqr;cases hq with|clip h=>exact h
   |_=>cases hqr
  by_cases h0:srows.length=0
  . have hnil:srows=[]:=BP h0;subst hnil;cases hqd with
    |@nil ad cap hcm hcap=>
     cases ad with
     |none=>
      have:=hcap rfl;subst this;refine ⟨0,[],pvl,w,run_append_owned_none w base t ty e i i.size ht hi pvl rows.length xs hmine.1,rfl,by simp,by simpa using hmine.1,⟨rfl,rfl,rfl,AW _,fun _ _ _=>rfl⟩,fun k hk=>.inl hk,by simp⟩
     |some ad=>
      obtain ⟨v',w',h1,h2,h3,h4⟩:=FJ (P:=P) w base t ty e i z i.size i.bytes ht hi hz rfl rfl hzs pvl rows.length xs hmine.1 ad 0 cap [] (by simp) (by simp) (by simp) (by simpa using h63) (by simpa using hby) h.rel.bs;exact ⟨0,[],v',w',h1,rfl,by simp,h2,h3,h4,by simp⟩
    |sl hc hm hs hi hr=>
     obtain ⟨v',w',h1,h2,h3,h4⟩:=FJ (P:=P) w base t ty e i z i.size i.bytes ht ‹_› hz rfl rfl hzs pvl rows.length xs hmine.1 _ 0 _ [] (by simp) (by simp) (by simp) (by simpa using h63) (by simpa using hby) h.rel.bs;exact ⟨0,[],v',w',h1,rfl,by simp,h2,h3,h4,by simp⟩
  . obtain ⟨ad,cap,rfl,_⟩:=hqd.Q8;have hpos:0 < srows.length:=Nat.pos_of_ne_zero h0
    obtain ⟨b,off,rfl⟩:∃b off,ad=some ⟨b,off,none⟩:=by
     generalize hvv:(Value.slice ad srows.length cap)=vv at hqd;cases hqd with
     |nil=>simp at hpos
     |sl=>cases hvv;exact ⟨_,_,rfl⟩
    obtain ⟨news,hnl,_,hni,hnr⟩:=RD.cellsOf hss hqd hpos
    have hones:∀u∈news,u.oneCell'=true:=by
     intro u hu;obtain ⟨j,hj,rfl⟩:=Bt hu;have hjf:j < srows.flatten.length:=by rw [G1 srows hss,<- hnl];exact hj
     obtain ⟨v,hv,hrd⟩:=hnr j srows.flatten[j] (by simp);have:v=news[j]:=by rw [BB hj] at hv;cases hv;rfl
     rw [<- this];exact hrd.one
    obtain ⟨v',w',h1,h2,h3,h4⟩:=FJ (P:=P) w base t ty e i z i.size i.bytes ht hi hz rfl rfl hzs pvl rows.length xs hmine.1 ⟨b,off,none⟩ srows.length cap news hnl
     (fun j u hu=>by rw [Addr.add_lit];exact h.rel.im _ _ _ (hni j u hu)) hones h63 hby h.rel.bs
    exact ⟨srows.length,news,v',w',h1,rfl,hnl,h2,h3,h4,hnr⟩
 obtain ⟨m,news,v',w',hrun,rfl,hnl,hown',hgr,hwh,hnr⟩:=hsrc;have hrel1:=h.rel.less hle1;have hle:=hrel1.wP (news:=news) (e:=e) (size:=i.size) (t':=t') hmine hwh htau;have hrel':=hrel1.AWE (t':=t') hmine hown' hgr hwh htau
 have hnpr:∀b,v'.ownBlock=some b->¬(Pr b\/∃k,lam k=some b):=fun b hb=>by
  rcases hwh b hb with hvb|hge
  . exact (hmine.2 b hvb).2.1
  . intro hp;have:=(h.rel.pr b hp).1;omega
 refine ⟨v',g.grow v' e i.size t' (xs++news),w',t',hrun,hle,⟨hgr.size,fun b hb=>hgr.block b (h.rel.pr b (.inl hb)).1 (fun e'=>hnpr b e'.symm (.inl hb))⟩,htok,?_,
  h.step hle (fun k b hb=>hgr.block b (h.NA hb) (fun e'=>hnpr b e'.symm (.inr ⟨k,hb⟩))) hrel'⟩
 have hall:∀r∈rows++srows,r.length=i.size:=fun r hr=>by
  rcases A0.1 hr with h1|h1
  . exact hsz r h1
  . exact hss r h1
 refine .own ?_ (by simp [Gh.grow]) hall;have hxl:xs.length=rows.length * i.size:=hmine.1.1;rcases hown'.2 with ⟨rfl,h0⟩|⟨gg,cap,cur,rfl,hbg,hgg,hnc,hcm,_⟩
 . have:rows++srows=[]:=BP (by rw [AX];exact h0);rw [this];exact .nil (GW _) (fun _=>rfl)
 . have:=RD.ANR (im:=(g.grow (.slice (some ⟨gg,0,none⟩) (rows.length+srows.length) cap) e i.size t' (xs++news)).im) (rows:=rows++srows) (size:=i.size) (b:=gg) (off:=0) (cap:=cap) (ys:=xs++news)
    hall (by simpa using hnc) hcm (by rw [hown'.1];simp) (fun j u hu=>by simp only [Gh.grow,Value.ownBlock,if_true,BJ];exact hu) (fun j x hx=>by
     rw [PB] at hx;have hfl:=G1 rows hsz;rcases C7 j rows.flatten.length with h1|h1
     . rw [BQ h1] at hx;obtain ⟨v,hv,hrd⟩:=hxs j x hx;exact ⟨v,by rw [BQ (by omega)];exact hv,hrd.mono hle.im⟩
     . rw [BL h1] at hx;obtain ⟨v,hv,hrd⟩:=hnr _ x hx;refine ⟨v,?_,hrd.mono hle.im⟩;rw [BL (by omega),hxl,<- hfl];exact hv)
   simpa using this
end Go.Ab
namespace Go.Ab
open Go.RowKit
variable {P:Program} {base N:Nat} {g g':Gh} {Pr:Nat->Prop} {σ σ':AI} {w0 w w':World} {lam:Nat->Option Nat} {F:Fm} {L:Lm} {a:Act}
theorem APN {t ty e:TypeId} {i:TypeInfo} {z:Value} (ht:P.underlying t=some (.slice e)) (hi:P.info? e=some i) (hz:i.zero=some z) (hzs:z.cells.size=i.size)
 (h:Bv base g lam Pr N F L σ a w0 w) {q:AV} {pvl qvl:Value} (hq:SV g lam q qvl) {srows:List (List DV)} {n:Nat} {xs:List Value} (hmine:w.ownsRow base e i.size pvl n xs)
 (hqr:q.rows=some srows) (hss:∀r∈srows,r.length=i.size) (h63:n+srows.length<=maxLen) (hby:(n+srows.length) * i.bytes<=140737488355328):
 ∃(m:Nat) (news:List Value) (v':Value) (w':World),(Builtin.append_ #[t,t] ty #[pvl,qvl]).run P w= .ok v' w'/\m=srows.length/\news.length=m * i.size/\
  w'.ownsRow base e i.size v' (n+m) (xs++news)/\w.grownBy w' v'.ownBlock/\(∀k,v'.ownBlock=some k->pvl.ownBlock=some k\/w.heap.size<=k)/\
  (∀(j:Nat) (x:DV),srows.flatten[j]?=some x->∃v,news[j]?=some v/\RD g.im x v):=by
 have hqd:RD g.im (.sl srows) qvl:=by
  cases q with
  |d x=>cases x<;>simp only [AV.rows,AL] at hqr<;>try (cases hqr;done)
        subst hqr;cases hq with|d h=>exact h
  |Ae=>simp only [AV.rows,AL] at hqr;subst hqr;cases hq;exact .nil (GW _) (fun _=>rfl)
  |own _ _ _ _=>simp only [AV.rows,AL] at hqr;subst hqr;cases hq with|own h _ _=>exact h
  |clip _=>simp only [AV.rows,AL] at hqr;subst hqr;cases hq with|clip h=>exact h
  |_=>cases hqr
 by_cases h0:srows.length=0
 . have hnil:srows=[]:=BP h0;subst hnil;cases hqd with
   |@nil ad cap hcm hcap=>
    cases ad with
    |none=>
     have:=hcap rfl;subst this;refine ⟨0,[],pvl,w,run_append_owned_none w base t ty e i i.size ht hi pvl n xs hmine,rfl,by simp,by simpa using hmine,⟨rfl,rfl,rfl,AW _,fun _ _ _=>rfl⟩,fun k hk=>.inl hk,by simp⟩
    |some ad=>
     obtain ⟨v',w',h1,h2,h3,h4⟩:=FJ (P:=P) w base t ty e i z i.size i.bytes ht hi hz rfl rfl hzs pvl n xs hmine ad 0 cap [] (by simp) (by simp) (by simp) (by simpa using h63) (by simpa using hby) h.rel.bs;exact ⟨0,[],v',w',h1,rfl,by simp,h2,h3,h4,by simp⟩
   |sl hc hm hs hi hr=>
    obtain ⟨v',w',h1,h2,h3,h4⟩:=FJ (P:=P) w base t ty e i z i.size i.bytes ht ‹_› hz rfl rfl hzs pvl n xs hmine _ 0 _ [] (by simp) (by simp) (by simp) (by simpa using h63) (by simpa using hby) h.rel.bs;exact ⟨0,[],v',w',h1,rfl,by simp,h2,h3,h4,by simp⟩
 . obtain ⟨ad,cap,rfl,_⟩:=hqd.Q8;have hpos:0 < srows.length:=Nat.pos_of_ne_zero h0
   obtain ⟨b,off,rfl⟩:∃b off,ad=some ⟨b,off,none⟩:=by
    generalize hvv:(Value.slice ad srows.length cap)=vv at hqd;cases hqd with
    |nil=>simp at hpos
    |sl=>cases hvv;exact ⟨_,_,rfl⟩
   obtain ⟨news,hnl,_,hni,hnr⟩:=RD.cellsOf hss hqd hpos
   have hones:∀u∈news,u.oneCell'=true:=by
    intro u hu;obtain ⟨j,hj,rfl⟩:=Bt hu;have hjf:j < srows.flatten.length:=by rw [G1 srows hss,<- hnl];exact hj
    obtain ⟨v,hv,hrd⟩:=hnr j srows.flatten[j] (by simp);have:v=news[j]:=by rw [BB hj] at hv;cases hv;rfl
    rw [<- this];exact hrd.one
   obtain ⟨v',w',h1,h2,h3,h4⟩:=FJ (P:=P) w base t ty e i z i.size i.bytes ht hi hz rfl rfl hzs pvl n xs hmine ⟨b,off,none⟩ srows.length cap news hnl
    (fun j u hu=>by rw [Addr.add_lit];exact h.rel.im _ _ _ (hni j u hu)) hones h63 hby h.rel.bs
   exact ⟨srows.length,news,v',w',h1,rfl,hnl,h2,h3,h4,hnr⟩
theorem Rel.AT2 (h:Rel base g Pr σ w0 w) {i b:Nat} {cs:List AV} (hi:σ.blk i=some cs) (hm:g.mu i=some b):Rel base g (fun x=>Pr x\/x=b) (σ.E1 i) w0 w:=by
 obtain ⟨b0,hb0,ho⟩:=h.shr i cs hi;rw [hm] at hb0;cases hb0;have hlt:=h.Sy hi hm
 have hn:∀j,(σ.E1 i).blk j≠none->j≠i/\σ.blk j≠none:=fun j hj=>by
  by_cases e:j=i
  . subst e;simp [AI.E1] at hj
  . exact ⟨e,by simpa [AI.E1,e] using hj⟩
 have hbi:σ.blk i≠none:=by rw [hi];simp
 refine ⟨h.im,fun j cs' hj=>?_,fun j k b' hj hk=>h.inj j k b' (hn j hj).2 (hn k hk).2,fun t ht=>?_,fun x hx=>?_,h.bel,h.bs,h.fin,h.st⟩
 . have hji:=(hn j (by rw [hj];simp)).1;have hj':σ.blk j=some cs':=by simpa [AI.E1,hji] using hj
   obtain ⟨b',hb',ho'⟩:=h.shr j cs' hj';refine ⟨b',hb',ho'.ok,ho'.row,ho'.low,ho'.im,fun hp=>?_⟩;rcases hp with hp|hp
   . exact ho'.pr hp
   . exact hji (h.inj j i b (by rw [hj'];simp) hbi (hp ▸ hb') hm)
 . have ht':σ.tok t=true:=ht;obtain ⟨v,e,size,n,xs,hmt,hown,hrest⟩:=(h.tok t ht').row;refine ⟨v,e,size,n,xs,hmt,hown,fun b' hvb=>?_⟩;obtain ⟨h1,h2,h3,h4⟩:=hrest b' hvb;refine ⟨h1,fun hp=>?_,fun j hj=>h3 j (hn j hj).2,h4⟩;rcases hp with hp|hp
   . exact h2 hp
   . exact h3 i hbi (hp ▸ hm)
 . rcases hx with hx|hx
   . exact h.pr x hx
   . subst hx;exact ⟨hlt,ho.im⟩
def Oc (σ:AI) (e size:Nat):AV->Option (Nat×List AV×AI)
 | .Ae=>some (0,[],σ)
 | .ms i n s e'=>if s=size/\e'=e then (σ.blk i).bind fun cs=>if cs.length=n * size then some (n,cs,σ.E1 i) else none else none
 |_=>none
def Es (srows:List (List DV)):List AV:=srows.flatten.map AV.d
theorem ACX {t ty e:TypeId} {i:TypeInfo} {z:Value} (ht:P.underlying t=some (.slice e)) (hi:P.info? e=some i) (hz:i.zero=some z) (hzs:z.cells.size=i.size)
 (h:Bv base g lam Pr N F L σ a w0 w) {p q:AV} {pvl qvl:Value} (hp:SV g lam p pvl) (hq:SV g lam q qvl) {srows:List (List DV)} {n:Nat} {cs:List AV} {σ1:AI}
 (hpa:Oc σ e i.size p=some (n,cs,σ1)) (hqr:q.rows=some srows) (hss:∀r∈srows,r.length=i.size) (hne:srows≠[])
 (h63:n+srows.length<=maxLen) (hby:(n+srows.length) * i.bytes<=140737488355328):
 ∃x g' w' j,(Builtin.append_ #[t,t] ty #[pvl,qvl]).run P w= .ok x w'/\g.le g'/\KP Pr w w'/\σ.blk j=none/\VR g' (.ms j (n+srows.length) i.size e) x/\
  Bv base g' lam Pr N F L (σ1.AP j (cs++Es srows)) a w0 w':=by
 obtain ⟨j,hj,htau,hblk,htok⟩:=h.rel.fresh
 have hstart:∃(b0:Nat->Prop) (xs:List Value),w.ownsRow base e i.size pvl n xs/\cs.length=n * i.size/\VRs g cs xs/\Aw cs=true/\(∀b,pvl.ownBlock=some b->b0 b)/\(∀b,b0 b->pvl.ownBlock=some b)/\
  Rel base g (fun x=>(Pr x\/∃k,lam k=some x)\/b0 x) σ1 w0 w/\(∀b,b0 b->(∀o,g.im b o=none)/\¬(Pr b\/∃k,lam k=some b)):=by
  unfold Oc at hpa;split at hpa
  . cases hpa;cases hp;refine ⟨fun _=>False,[],World.ownsRow_nil w base e i.size,by simp,.nil,rfl,fun b hb=>by simp [Value.ownBlock] at hb,fun b hb=>hb.elim,?_,fun b hb=>hb.elim⟩
    exact h.rel.grow (AW _) (fun _ _ _=>rfl) (Below.refl _ _) (fun b hb=>by
     rcases hb with hb|hb
     . exact ⟨(h.rel.pr b hb).1,.inl hb⟩
     . exact hb.elim)
  . rename_i i0 n0 s0 e0;split at hpa
    case isFalse=>cases hpa
    rename_i hcond;obtain ⟨rfl,rfl⟩:=hcond;simp only [AB] at hpa;obtain ⟨cs0,hcs0,hpa⟩:=hpa;split at hpa
    case isFalse=>cases hpa
    rename_i hlen;cases hpa;cases hp with
    |@ms _ _ _ _ b cap hm hr hn hmx=>
     obtain ⟨b',hb',ho⟩:=h.rel.shr i0 cs hcs0;rw [hm] at hb';cases hb';obtain ⟨vs,ty',hv,hl,hrt,hvr⟩:=ho.row;obtain ⟨hsz,hty⟩:=hrt _ hr;simp only at hsz hty;subst hty;refine ⟨fun x=>x=b,vs.toList.take cs.length,⟨by simp;omega,.inr ⟨b,cap,vs,rfl,ho.low,hv,hn,hmx,hsz,by rw [hlen]⟩⟩,hlen,hvr,ho.ok,fun b2 hb2=>by simp [Value.ownBlock] at hb2;exact hb2.symm,fun b2 hb2=>by simp [Value.ownBlock,hb2],h.rel.AT2 hcs0 hm,fun b2 hb2=>?_⟩;subst hb2;exact ⟨ho.im,ho.pr⟩
  . cases hpa
 obtain ⟨b0,xs,hown,hcl,hvr,hcok,hb1,hb2,hrel1,hb3⟩:=hstart;obtain ⟨m,news,v',w',hrun,rfl,hnl,hown',hgr,hwh,hnr⟩:=APN ht hi hz hzs h hq hown hqr hss h63 hby
 have hsame:∀b,b < w.heap.size->v'.ownBlock≠some b->w'.heap[b]?=w.heap[b]?:=fun b hb hne=>hgr.block b hb (A9 hne);have hbel:Below base w w':=⟨hgr.os,hgr.tape,hgr.output,hgr.size,fun k hk=>hsame k (by have:=h.rel.bs;omega) fun e'=>by have:=(hown'.lt k e').1;omega⟩
 have hrel2:Rel base g (fun x=>Pr x\/∃k,lam k=some x) σ1 w0 w':=
  hrel1.grow hgr.size (fun b hb hnp=>hsame b hb (fun e'=>by
   rcases hwh b e' with h1|h1
   . exact hnp (.inr (hb1 b h1))
   . omega)) hbel (fun b hb=>⟨by have:=(h.rel.pr b hb).1;have:=hgr.size;omega,.inl (.inl hb)⟩)
 -- the new row
 have hsome:∃gg cap cur,v'= .slice (some ⟨gg,0,none⟩) (n+srows.length) cap/\base<=gg/\w'.heap[gg]?=some (.cells cur e (0,0))/\n+srows.length<=cap/\cap<=maxLen/\cur.size=cap * i.size/\cur.toList.take ((n+srows.length) * i.size)=xs++news:=by
  rcases hown'.2 with ⟨rfl,h0⟩|hh
  . exact absurd (BP (show srows.length=0 by omega)) hne
  . exact hh
 obtain ⟨gg,cap,cur,rfl,hbg,hheap,hnc,hcm,hcur,htake⟩:=hsome
 have hwh':b0 gg\/w.heap.size<=gg:=by
  rcases hwh gg rfl with h1|h1
  . exact .inl (hb1 gg h1)
  . exact .inr h1
 have hpr:¬(Pr gg\/∃k,lam k=some gg):=by
  rcases hwh' with h1|h1
  . exact (hb3 gg h1).2
  . intro hp2;have:=(h.rel.pr gg hp2).1;omega
 have him:∀o,g.im gg o=none:=by
  rcases hwh' with h1|h1
  . exact (hb3 gg h1).1
  . intro o;cases hi':g.im gg o with
    |none=>rfl
    |some v=>have:=h.rel.Xf hi';omega
 have hxl:xs.length=n * i.size:=hown.1
 have hcl2:(cs++Es srows).length=(n+srows.length) * i.size:=by
  rw [AX,hcl,Es,AA,G1 srows hss,CK]
 have hvrs:VRs g (cs++Es srows) (xs++news):=by
  refine hvr.append (VRs.Sm _ _ (by rw [hnl,Es,AA,G1 srows hss]) (fun q c v hc hv=>?_));rw [Es,Aj,AN] at hc;obtain ⟨x,hx,rfl⟩:=hc;obtain ⟨v2,hv2,hr2⟩:=hnr q x hx;rw [hv] at hv2;cases hv2;exact .d hr2
 have hcok2:Aw (cs++Es srows)=true:=by
  simp only [HJ,hcok,BY,Es];exact XE _
 have hle:=Gh.OI (g:=g) (i:=j) (b:=gg) (rt:=some (cap * i.size,e)) hj
 have hrel3:=hrel2.yC (i:=j) (b:=gg) (rt:=some (cap * i.size,e)) hj hbg (fun q hq' hm=>?_) him (fun t2 v2 e2 s2 ht2 hm2 hvb=>?_) (cs:=cs++Es srows) hheap (by rw [hcl2,hcur];exact Bw _ hnc)
  (fun t ht=>by cases ht;exact ⟨hcur,rfl⟩) (by rw [hcl2,htake];exact hvrs) hcok2 hpr
 . refine ⟨_,g.share j gg (some (cap * i.size,e)),w',j,hrun,hle,⟨hgr.size,fun b hb=>hsame b (h.rel.pr b (.inl hb)).1 (fun e'=>by simp only [Value.ownBlock,AL] at e';exact hpr (e' ▸ .inl hb))⟩,hblk,
    .ms (by simp [Gh.share]) (by simp [Gh.share]) hnc hcm,?_⟩
   exact h.step hle (fun k b hb=>hsame b (h.NA hb) (fun e'=>by simp only [Value.ownBlock,AL] at e';exact hpr (.inr ⟨k,e' ▸ hb⟩))) hrel3
 . rcases hwh' with h1|h1
   . cases hc:σ1.blk q with
     |none=>exact hq' hc
     |some c=>
      obtain ⟨b2,hb2',ho2⟩:=hrel1.shr q c hc;rw [hm] at hb2';cases hb2';exact ho2.pr (.inr h1)
   . cases hc:σ1.blk q with
     |none=>exact hq' hc
     |some c=>have:=hrel1.Sy hc hm;omega
 . obtain ⟨v3,e3,s3,n3,xs3,hm3,hown3,hrest3⟩:=(hrel1.tok t2 ht2).row;rw [hm2] at hm3;cases hm3;rcases hwh' with h1|h1
   . exact (hrest3 gg hvb).2.1 (.inr h1)
   . have:=(hown3.lt gg hvb).2;omega
def AUR (σ:AI):AV->AV->Option (Nat×Nat×Nat×List AV×AI)
 | .ms i n s e,h=>(Xs h).bind fun k=>(σ.blk i).bind fun cs=>if k<=n/\cs.length=n * s then some (k,s,e,cs.take (k * s),σ.E1 i) else none
 |_,_=>none
theorem AKU {t e0:TypeId} (ht:P.underlying t=some (.slice e0)) {sz:Nat} (hsz:szT P e0=some sz) (h:Bv base g lam Pr N F L σ a w0 w) {p q:AV} {pvl qvl:Value} (hp:SV g lam p pvl) (hq:SV g lam q qvl)
 {k s e:Nat} {cs:List AV} {σ1:AI} (hv:AUR σ p q=some (k,s,e,cs,σ1)):
 ∃x g' j,(Instr.sliceAt t pvl none (some qvl) none).run P w= .ok x w/\g.le g'/\σ.blk j=none/\VR g' (.ms j k s e) x/\Bv base g' lam Pr N F L (σ1.AP j cs) a w0 w:=by
 obtain ⟨j,hj,htau,hblk,htok⟩:=h.rel.fresh;unfold AUR at hv;split at hv
 case h_2=>cases hv
 rename_i i n s0 e1;simp only [AB] at hv;obtain ⟨k0,hk,cs0,hcs0,hv⟩:=hv;split at hv
 case isFalse=>cases hv
 rename_i hcond;cases hv;obtain ⟨kk,rfl⟩:=Iu hk hq;cases hp with
 |@ms _ _ _ _ b cap hm hr hn hmx=>
  obtain ⟨b',hb',ho⟩:=h.rel.shr i cs0 hcs0;rw [hm] at hb';cases hb';obtain ⟨vs,ty',hv,hl,hrt,hvr⟩:=ho.row;have hrt':=hrt _ hr;have hkn:k * s<=n * s:=Bw _ hcond.1
  have hrun:(Instr.sliceAt t (.slice (some ⟨b,0,none⟩) n cap) none (some (.int kk k)) none).run P w= .ok (.slice (some ⟨b,0,none⟩) k cap) w:=by
   have hb1:(Instr.sliceBounds true n cap none (some (.int kk k)) none).run P w= .ok (0,k,cap) w:=by
    simp [Instr.sliceBounds,Jn (Ap hcond.1 hn)]
   simp [Instr.sliceAt,Instr.slice,Bm ht,hb1,FV hsz,Addr.add_lit]
  have hrel1:=h.rel.AT2 hcs0 hm
  have hrel2:Rel base g (fun x=>Pr x\/∃k,lam k=some x) (σ.E1 i) w0 w:=
   hrel1.grow (AW _) (fun _ _ _=>rfl) (Below.refl _ _) (fun b hb=>⟨(h.rel.pr b hb).1,.inl (.inl hb)⟩)
  have hle:=Gh.OI (g:=g) (i:=j) (b:=b) (rt:=some (cap * s,e)) hj;have hlen:(cs0.take (k * s)).length=k * s:=by simp;omega
  have hrel3:=hrel2.yC (i:=j) (b:=b) (rt:=some (cap * s,e)) hj ho.low (fun q hq' hm'=>?_) ho.im (fun t2 v2 e2 s2 ht2 hm2 hvb=>?_) (cs:=cs0.take (k * s)) hv (by omega) (fun t ht=>by cases ht;exact hrt')
   (by rw [hlen];have:=hvr.take (k * s);rwa [List.take_take,Dd (by omega)] at this) (PL _ ho.ok) ho.pr
  . exact ⟨_,g.share j b (some (cap * s,e)),j,hrun,hle,hblk,.ms (by simp [Gh.share]) (by simp [Gh.share]) (Ap hcond.1 hn) hmx,h.step hle (fun _ _ _=>rfl) hrel3⟩
  . cases hc:(σ.E1 i).blk q with
    |none=>exact hq' hc
    |some c=>
     obtain ⟨b2,hb2',ho2⟩:=hrel1.shr q c hc;rw [hm'] at hb2';cases hb2';exact ho2.pr (.inr rfl)
  . obtain ⟨v3,e3,s3,n3,xs3,hm3,hown3,hrest3⟩:=(hrel1.tok t2 ht2).row;rw [hm2] at hm3;cases hm3;exact (hrest3 b hvb).2.1 (.inr rfl)
end Go.Ab
