/- Part Ab1. Conditions: none. -/
import Derived.Orders
import Derived.Below
import Derived.Laws.AppendOwn
import Derived.Laws.AppendOwnNone
import Derived.Laws.Strings
import Derived.Laws.StructEq
import Derived.Laws.Externs
import Derived.Lib.AppendStr
import Derived.Lib.AppendZeros
import Derived.Lib.UnsafeStr
import Derived.Laws.IdiomStrings
import Derived.Lib.LazyBuf
import Derived.Laws.CopyRow
import Derived.MapKept
set_option linter.unusedSimpArgs false
set_option linter.unusedVariables false
set_option maxRecDepth 100000
set_option maxHeartbeats 40000000
set_option linter.defProp false
open List renaming map_cons→AF,all_cons→BO,take_length→BQ,length_append→AY,size_toArray→TI,append_assoc→Aq,eq_nil_of_length_eq_zero→An,nil_append→Ag,length_take→B5,length_drop→Df,getElem?_append_left→BC,replicate→AG,getElem?_take→B2,getElem?_drop→BN,mem_of_mem_drop→Hw,mem_of_mem_take→CZ,all_eq_true→Aj,range→Av,getElem?_map→Am,getElem?_range→Dy,getElem?_eq_some_iff→AE,mem_of_getElem?→AD,take_zero→C0,getElem_mem→E5,drop_drop→Es,foldl_cons→Au,length_cons→A0,getElem?_cons_succ→RG,getElem_of_mem→Bv,getElem?_eq_getElem→Ay,getD_eq_getElem?_getD→A2,replicate_succ→BV,flatten_cons→BW,flatten_append→It,map_append→Ao,all_append→ZV,ext_getElem?→Et,getElem?_append_right→As,getElem?_eq_none→BM,mem_append→AZ,length_map→AA,mem_map→B8,length_pos_iff→Iu,drop_zero→TG,take_of_length_le→AP,append_nil→Bu,length_nil→Bw,take_append_drop→A7,take→G7,getElem?_cons_zero→Aw,contains_cons→QM,all_nil→Cq,map_congr_left→FA,flatMap_cons→DJ
open Bool renaming and_eq_true→AO,false_eq_true→A1,or_eq_true→Cb,not_eq_true'→Br,and_self→XB,true_and→Bk,not_true→XC,false_or→Ep,and_true→BU
open Array renaming getElem?_eq_some_iff→Mj,length_toList→Ir,range→XD,getD_eq_getD_getElem?→DI,getElem?_modify→Vn
open Nat renaming le_refl→AS,le_trans→Af,add_mul→Bs,zero_add→BF,mul_le_mul_right→Bi,lt_or_ge→C8,lt_of_lt_of_le→Be,zero_le→FO,zero_mul→Nb,add_zero→CF,succ_mul→Na,min_eq_left→FN,mul_one→A9,eq_zero_or_pos→KZ
open Go renaming undef→Cl
open Option.some renaming injEq→AM,inj→Kc
open Ne renaming symm→A6
open Option renaming map_eq_some_iff→AK,bind_eq_some_iff→AB,map_some→Ac,bind_eq_bind→AT,bind_some→E6
open ByteArray renaming mk→HC
open List.cons renaming injEq→ZW
open Prod.mk renaming injEq→BZ
namespace Go.Ab
open Go.RowKit
variable {b cap h n off sz:Nat} {dst:Option Nat} {e k mt ty:TypeId} {hiv lov:Option Value} {i:TypeInfo} {im:Nat->Nat->Option Value} {lc:Bool} {m:Sem Value} {news vs xs:List Value} {o:Oper} {ps:Array (Nat×Operand)} {pvl qvl u v z:Value} {rt:Option (Nat×TypeId)} {s:List UInt8} {y:Operand}
inductive DV where
 |int (k:IntKind) (n:Int)
 |bool (b:Bool)
 |str (s:List UInt8)
 |sl (rows:List (List DV))
 |ptr (row:List DV)
 |EO
variable {l:List DV} {srows:List (List DV)}
abbrev MK:=Int ⊕ (Int×List UInt8)
abbrev MEs:=List (MK×Int)
variable {es:MEs}
inductive AV where
 |d (x:DV)
 |Ad
 |own (t e size:Nat) (rows:List (List DV))
 |clip (rows:List (List DV))
 |agg (cs:List AV)
 |lp (k off:Nat)
 |gp (i off:Nat)
 |ep (row:List DV) (off:Nat)
 |EO
 |ms (i n s e:Nat)
 |mv (i off n s e:Nat)
 |bp (t e:Nat) (s:List UInt8)
 |HG
 |om (t:Nat) (es:MEs)
 |fn (f:FuncId) (first caps:List AV)
 |tup (vs:List AV)
 |undef
variable {cs:List AV} {hi lo:Option AV} {p q x:AV}
def AV.B1:AV->Bool
 | .agg _| .lp _ _| .tup _| .undef=>false
 |_=>true
def AV.cells:AV->List AV
 | .agg cs=>cs
 |v=>[v]
structure AH where
 blk:Nat->Option (List AV)
 tok:Nat->Bool
 gt:Nat->Option (Array Value)
 bt:Nat->Option (Nat×TypeId)
variable {R:AV->AH->Prop} {σ1:AH}
structure Gh where
 im:Nat->Nat->Option Value
 mu:Nat->Option Nat
 tau:Nat->Option (Value×TypeId×Nat)
 rm:Nat->Option (Nat×TypeId)
structure Gh.le (g g':Gh):Prop where
 im:∀b o v,g.im b o=some v->g'.im b o=some v
 mu:∀i b,g.mu i=some b->g'.mu i=some b
 tau:∀t x,g.tau t=some x->g'.tau t=some x
 rm:∀i n,g.rm i=some n->g'.rm i=some n
def Gh.le_refl (g:Gh):g.le g:=⟨fun _ _ _ h=>h,fun _ _ h=>h,fun _ _ h=>h,fun _ _ h=>h⟩
def Gh.le_trans {a b c:Gh} (h:a.le b) (k:b.le c):a.le c:=
 ⟨fun _ _ _ x=>k.im _ _ _ (h.im _ _ _ x),fun _ _ x=>k.mu _ _ (h.mu _ _ x),fun _ _ x=>k.tau _ _ (h.tau _ _ x),fun _ _ x=>k.rm _ _ (h.rm _ _ x)⟩
inductive RD (im:Nat->Nat->Option Value):DV->Value->Prop
 |int {k:IntKind} {n:Int} (h:k.has n):RD im (.int k n) (.int k n)
 |bool {b:Bool}:RD im (.bool b) (.bool b)
 |str {s:List UInt8} (h:s.length<=maxLen):RD im (.str s) (.string ⟨s.toArray⟩)
 |nil {a:Option Addr} {cap:Nat} (hm:cap<=maxLen) (h:a=none->cap=0):RD im (.sl []) (.slice a 0 cap)
 |sl {rows:List (List DV)} {b off cap size:Nat} {f:Nat->Nat->Value} (hc:rows.length<=cap) (hm:cap<=maxLen)
  (hs:∀r∈rows,r.length=size)
  (hi:∀i j,i < rows.length->j < size->im b (off+i * size+j)=some (f i j))
  (hr:∀(i:Nat) (r:List DV) (j:Nat) (x:DV),rows[i]?=some r->r[j]?=some x->RD im x (f i j)):
  RD im (.sl rows) (.slice (some ⟨b,off,none⟩) rows.length cap)
 |ptr {row:List DV} {b o:Nat} {f:Nat->Value} (hi:∀j,j < row.length->im b (o+j)=some (f j))
  (hr:∀(j:Nat) (x:DV),row[j]?=some x->RD im x (f j)):RD im (.ptr row) (.pointer (some ⟨b,o,none⟩))
 |EO:RD im .EO (.pointer none)
def RD.mono {im':Nat->Nat->Option Value} (h:∀b o v,im b o=some v->im' b o=some v) {x:DV} (Z:RD im x v):RD im' x v:=by
 induction Z with
 |int h=>exact .int h
 |bool=>exact .bool
 |str h=>exact .str h
 |nil hm h=>exact .nil hm h
 |sl hc hm hs hi hr ih=>exact .sl hc hm hs (fun i j a b=>h _ _ _ (hi i j a b)) ih
 |ptr hi hr ih=>exact .ptr (fun j hj=>h _ _ _ (hi j hj)) ih
 |EO=>exact .EO
def RD.one {x:DV} (Z:RD im x v):v.oneCell'=true:=by cases Z<;>rfl
def kV:MK->Value
 | .inl n=>.int .i64 n
 | .inr k=>.agg #[.int .i64 k.1,.string ⟨⟨k.2⟩⟩]
def Un (p:MK×Int):Value×Value:=(kV p.1,match p.1 with| .inl _=>.int .i64 p.2| .inr _=>.bool true)
def vG (b:Nat) (es:MEs):Value:= .tuple #[.map (some b),.tuple (es.map fun p=>Value.tuple #[kV p.1,.int .i64 p.2]).toArray]
def Ab4:Value->Option (MK×Int)
 | .tuple a=>match a.toList with
  |[.int _ x,.int _ y]=>some (.inl x,y)
  |[.agg c,.int _ y]=>match c.toList with
   |[.int _ x,.string s]=>some (.inr (x,s.data.toList),y)
   |_=>none
  |_=>none
 |_=>none
def AL0:List Value->MEs
 |[]=>[]
 |v::l=>((Ab4 v).getD (.inl 0,0))::AL0 l
def AL1:Value->Option (Nat×MEs)
 | .tuple a=>match a.toList with
  |[.map (some b),.tuple c]=>some (b,AL0 c.toList)
  |_=>none
 |_=>none
def qO:∀es:MEs,AL0 (es.map fun p=>Value.tuple #[kV p.1,.int .i64 p.2])=es
 |[]=>rfl
 |(.inl n,x)::es=>by rw [AF,AL0,qO es];rfl
 |(.inr (n,s),x)::es=>by rw [AF,AL0,qO es];rfl
def Xc (b:Nat) (es:MEs):AL1 (vG b es)=some (b,es):=by
 show some (b,AL0 ((es.map fun p=>Value.tuple #[kV p.1,.int .i64 p.2]).toArray.toList))=some (b,es);rw [List.toList_toArray,qO]
def AQC {b':Nat} {es':MEs} (h:vG b es=vG b' es'):b=b'/\es=es':=by
 have:=congrArg AL1 h;rw [Xc,Xc] at this;simpa using this
inductive VR (g:Gh):AV->Value->Prop
 |d {x:DV} {v:Value} (h:RD g.im x v):VR g (.d x) v
 |Ad:VR g .Ad (.slice none 0 0)
 |own {t e size:Nat} {rows:List (List DV)} {v:Value} (h:RD g.im (.sl rows) v) (ht:g.tau t=some (v,e,size)) (hs:∀r∈rows,r.length=size):VR g (.own t e size rows) v
 |clip {rows:List (List DV)} {a:Option Addr} {n:Nat} (h:RD g.im (.sl rows) (.slice a n n)):VR g (.clip rows) (.slice a n n)
 |agg {cs:List AV} {vs:List Value} (hl:vs.length=cs.length) (hc:∀c∈cs,c.B1=true)
  (h:∀(i:Nat) (c:AV) (v:Value),cs[i]?=some c->vs[i]?=some v->VR g c v):VR g (.agg cs) (.agg vs.toArray)
 |gp {i off b:Nat} (h:g.mu i=some b):VR g (.gp i off) (.pointer (some ⟨b,off,none⟩))
 |ep {row:List DV} {off b o:Nat} {f:Nat->Value} (hi:∀j,j < row.length->g.im b (o+j)=some (f j))
  (hr:∀j x,row[j]?=some x->RD g.im x (f j)):VR g (.ep row off) (.pointer (some ⟨b,o+off,none⟩))
 |EO:VR g .EO (.pointer none)
 |ms {i n s e b cap:Nat} (h:g.mu i=some b) (hr:g.rm i=some (cap * s,e)) (hn:n<=cap) (hm:cap<=maxLen):VR g (.ms i n s e) (.slice (some ⟨b,0,none⟩) n cap)
 |mv {i off n s e b o cap:Nat} (h:g.mu i=some b) (hr:g.rm i=some (cap * s,e)) (hn:off+n<=cap) (hm:cap<=maxLen) (ho:off < cap->o=off * s):VR g (.mv i off n s e) (.slice (some ⟨b,o,none⟩) n (cap - off))
 |bp {t e cap b off:Nat} {s:List UInt8} (ht:g.tau t=some (.slice (some ⟨b,off,none⟩) s.length cap,e,1)) (him:∀(j:Nat) (x:UInt8),s[j]?=some x->g.im b (off+j)=some (.int .u8 x.toNat)):VR g (.bp t e s) (.pointer (some ⟨b,off,none⟩))
 |HG:VR g .HG .nilFunc
 |om {t b:Nat} {es:MEs} (h:g.tau t=some (vG b es,0,0)):VR g (.om t es) (.map (some b))
 |fn {f:FuncId} {first caps:List AV} {fs cs:List Value} (hl:fs.length=first.length) (hl':cs.length=caps.length)
  (h:∀(i:Nat) (c:AV) (v:Value),first[i]?=some c->fs[i]?=some v->VR g c v)
  (h':∀(i:Nat) (c:AV) (v:Value),caps[i]?=some c->cs[i]?=some v->VR g c v):VR g (.fn f first caps) (.func (.func f) fs.toArray cs.toArray)
 |tup {cs:List AV} {vs:List Value} (hl:vs.length=cs.length)
  (h:∀(i:Nat) (c:AV) (v:Value),cs[i]?=some c->vs[i]?=some v->VR g c v):VR g (.tup cs) (.tuple vs.toArray)
 |undef {v:Value}:VR g .undef v
def VR.mono {g g':Gh} (hg:g.le g') {x:AV} {v:Value} (Z:VR g x v):VR g' x v:=by
 induction Z with
 |d h=>exact .d (h.mono hg.im)
 |Ad=>exact .Ad
 |own h ht hs=>exact .own (h.mono hg.im) (hg.tau _ _ ht) hs
 |clip h=>exact .clip (h.mono hg.im)
 |agg hl hc _ ih=>exact .agg hl hc ih
 |gp h=>exact .gp (hg.mu _ _ h)
 |ep hi hr=>exact .ep (fun j hj=>hg.im _ _ _ (hi j hj)) (fun j x Z=>(hr j x Z).mono hg.im)
 |EO=>exact .EO
 |ms h hr hn hm=>exact .ms (hg.mu _ _ h) (hg.rm _ _ hr) hn hm
 |mv h hr hn hm ho=>exact .mv (hg.mu _ _ h) (hg.rm _ _ hr) hn hm ho
 |bp ht him=>exact .bp (hg.tau _ _ ht) (fun j x Z=>hg.im _ _ _ (him j x Z))
 |HG=>exact .HG
 |om h=>exact .om (hg.tau _ _ h)
 |fn hl hl' _ _ ih ih'=>exact .fn hl hl' ih ih'
 |tup hl _ ih=>exact .tup hl ih
 |undef=>exact .undef
def VR.one {g:Gh} {x:AV} {v:Value} (hc:x.B1=true) (Z:VR g x v):v.oneCell'=true:=by
 cases Z with
 |d h=>exact h.one
 |own h _ _=>exact h.one
 |agg=>cases hc
 |tup=>cases hc
 |undef=>cases hc
 |_=>rfl
inductive VRs (g:Gh):List AV->List Value->Prop
 |nil:VRs g [] []
 |cons {c:AV} {v:Value} {cs:List AV} {vs:List Value} (h:VR g c v) (hs:VRs g cs vs):VRs g (c::cs) (v::vs)
def VRs.mono {g g':Gh} (hg:g.le g') {cs:List AV} {vs:List Value} (h:VRs g cs vs):VRs g' cs vs:=by
 induction h with
 |nil=>exact .nil
 |cons h _ ih=>exact .cons (h.mono hg) ih
def VRs.length {g:Gh} (h:VRs g cs vs):vs.length=cs.length:=by
 induction h with
 |nil=>rfl
 |cons _ _ ih=>simp [ih]
def VRs.at {g:Gh} {cs:List AV} {vs:List Value} (h:VRs g cs vs):∀(i:Nat) (c:AV),cs[i]?=some c->∃v,vs[i]?=some v/\VR g c v:=by
 induction h with
 |nil=>intro i c hi;simp at hi
 |cons h _ ih=>
  intro i c hi;cases i with
  |zero=>simp at hi;subst hi;exact ⟨_,rfl,h⟩
  |succ i=>simpa using ih i c (by simpa using hi)
def VRs.So {g:Gh}:∀(cs:List AV) (vs:List Value),vs.length=cs.length->(∀(i:Nat) (c:AV) (v:Value),cs[i]?=some c->vs[i]?=some v->VR g c v)->VRs g cs vs
 |[],[],_,_=>.nil
 |[],_::_,h,_=>by simp at h
 |_::_,[],h,_=>by simp at h
 |c::cs,v::vs,h,k=>.cons (k 0 c v rfl rfl) (VRs.So cs vs (by simpa using h) fun i c v hc hv=>k (i+1) c v (by simpa using hc) (by simpa using hv))
def VRs.idx {g:Gh} (h:VRs g cs vs) (i:Nat) (c:AV) (v:Value) (hc:cs[i]?=some c) (hv:vs[i]?=some v):VR g c v:=by
 obtain ⟨u,hu,hr⟩:=h.at i c hc;rw [hu] at hv;cases hv;exact hr
def VRs.append {g:Gh} {ds:List AV} {us:List Value} (h:VRs g cs vs) (k:VRs g ds us):VRs g (cs++ds) (vs++us):=by
 induction h with
 |nil=>exact k
 |cons h _ ih=>exact .cons h ih
def VRs.take {g:Gh} (h:VRs g cs vs) (n:Nat):VRs g (cs.take n) (vs.take n):=by
 induction h generalizing n with
 |nil=>simpa using .nil
 |cons h _ ih=>cases n with
  |zero=>simpa using .nil
  |succ n=>simpa using .cons h (ih n)
def VRs.drop {g:Gh} (h:VRs g cs vs) (n:Nat):VRs g (cs.drop n) (vs.drop n):=by
 induction h generalizing n with
 |nil=>simpa using .nil
 |cons h hs ih=>cases n with
  |zero=>simpa using .cons h hs
  |succ n=>simpa using ih n
def Ax (cs:List AV):Bool:=cs.all AV.B1
def VRs.AbF {g:Gh} (h:VRs g cs vs) (hc:Ax cs=true):∀v∈vs,v.oneCell'=true:=by
 induction h with
 |nil=>intro v hv;cases hv
 |cons h _ ih=>
  simp only [Ax,BO,AO] at hc;intro v hv;cases hv with
  |head=>exact h.one hc.1
  |tail _ hv=>exact ih hc.2 v hv
def VR.cells {g:Gh} {x:AV} {v:Value} (h:VR g x v) (hc:Ax x.cells=true):VRs g x.cells v.cells.toList:=by
 cases h with
 |agg hl _ h=>exact VRs.So _ _ (by simpa [Value.cells,AV.cells] using hl) (by simpa [Value.cells,AV.cells] using h)
 |tup=>simp [AV.cells,Ax,AV.B1] at hc
 |undef=>simp [AV.cells,Ax,AV.B1] at hc
 |d h=>
  have:=h.one;cases v<;>first|(cases h;done)|exact .cons (.d h) .nil
 |own h ht hs=>
  cases h with
  |nil a b=>exact .cons (.own (.nil a b) ht hs) .nil
  |sl a b c e f=>exact .cons (.own (.sl a b c e f) ht hs) .nil
 |Ad=>exact .cons .Ad .nil
 |clip h=>exact .cons (.clip h) .nil
 |gp h=>exact .cons (.gp h) .nil
 |ep h k=>exact .cons (.ep h k) .nil
 |EO=>exact .cons .EO .nil
 |ms h hr k hm=>exact .cons (.ms h hr k hm) .nil
 |mv h hr k hm ho=>exact .cons (.mv h hr k hm ho) .nil
 |bp h k=>exact .cons (.bp h k) .nil
 |HG=>exact .cons .HG .nil
 |om h=>exact .cons (.om h) .nil
 |fn a b c e=>exact .cons (.fn a b c e) .nil
def VN (es:MEs) (ents:Array MapEntry):Prop:=ents.toList.map (fun m=>(m.key,m.val))=es.map Un
def Y3 (v:Value):Option Nat:=match AL1 v with
 |some x=>some x.1
 |none=>v.ownBlock
def R7 (w:World) (base:Nat) (e:TypeId) (size:Nat) (v:Value) (n:Nat) (xs:List Value):Prop:=match AL1 v with
 |some x=>base<=x.1/\∃ents clock,w.heap[x.1]?=some (.map ents clock)/\VN x.2 ents
 |none=>w.ownsRow base e size v n xs
def AC5 {w:World} {base:Nat} {size:Nat} (h:w.ownsRow base e size v n xs):AL1 v=none:=by
 rcases h.2 with ⟨rfl,_⟩|⟨g,cap,cur,rfl,_⟩<;>rfl
def sP {w:World} {base:Nat} {size:Nat} (h:w.ownsRow base e size v n xs):Y3 v=v.ownBlock:=by
 unfold Y3;rw [AC5 h]
def AN1 {w:World} {base:Nat} {size:Nat} (h:w.ownsRow base e size v n xs):R7 w base e size v n xs:=by
 unfold R7;rw [AC5 h];exact h
def R7.slice {w:World} {base:Nat} {size:Nat} {a:Option Addr} {m c:Nat} (h:R7 w base e size (.slice a m c) n xs):w.ownsRow base e size (.slice a m c) n xs:=h
def R7.lt {w:World} {base:Nat} {e:TypeId} {size:Nat} {v:Value} {n:Nat} {xs:List Value} (h:R7 w base e size v n xs):∀k,Y3 v=some k->base<=k/\k < w.heap.size:=by
 intro k hk;unfold R7 at h;unfold Y3 at hk;split at h
 . rename_i x Z;rw [Z] at hk;cases hk;obtain ⟨h1,ents,clock,h2,_⟩:=h;exact ⟨h1,(Mj.1 h2).1⟩
 . rename_i Z;rw [Z] at hk;exact h.lt k hk
structure AaK (base:Nat) (g:Gh) (Pr:Nat->Prop) (Y:AH) (t:Nat) (w:World):Prop where
 row:∃v e size n xs,g.tau t=some (v,e,size)/\R7 w base e size v n xs/\
  ∀b,Y3 v=some b->(∀o,n * size<=o->g.im b o=none)/\¬Pr b/\(∀i,Y.blk i≠none->g.mu i≠some b)/\
   (∀t' v' e' s',t'≠t->Y.tok t'=true->g.tau t'=some (v',e',s')->Y3 v'≠some b)
structure AaJ (base:Nat) (g:Gh) (Pr:Nat->Prop) (rt:Option (Nat×TypeId)) (cs:List AV) (b:Nat) (w:World):Prop where
 ok:Ax cs=true
 row:∃vs ty,w.heap[b]?=some (.cells vs ty (0,0))/\cs.length<=vs.size/\(∀t,rt=some t->vs.size=t.1/\ty=t.2)/\VRs g cs (vs.toList.take cs.length)
 low:base<=b
 im:∀o,g.im b o=none
 pr:¬Pr b
def AH.St (Y:AH) (g:Gh) (base:Nat) (w0:World):Prop:=(∀b vs,Y.gt b=some vs->b < base/\∃ty fr,w0.heap[b]?=some (.cells vs ty fr))/\(∀i x,Y.bt i=some x->g.rm i=some x)
def AH.St.mono {Y σ':AH} {g g':Gh} {base:Nat} {w0:World} (h:Y.St g base w0) (hg:g.le g') (h1:σ'.gt=Y.gt) (h2:σ'.bt=Y.bt):σ'.St g' base w0:=
 ⟨fun b vs hv=>h.1 b vs (by rw [<- h1];exact hv),fun i x Z=>hg.rm _ _ (h.2 i x (by rw [<- h2];exact Z))⟩
structure Rel (base:Nat) (g:Gh) (Pr:Nat->Prop) (Y:AH) (w0 w:World):Prop where
 im:∀b o v,g.im b o=some v->w.cell? ⟨b,o,none⟩=some v
 shr:∀i cs,Y.blk i=some cs->∃b,g.mu i=some b/\AaJ base g Pr (g.rm i) cs b w
 inj:∀i j b,Y.blk i≠none->Y.blk j≠none->g.mu i=some b->g.mu j=some b->i=j
 tok:∀t,Y.tok t=true->AaK base g Pr Y t w
 pr:∀b,Pr b->b < w.heap.size/\∀o,g.im b o=none
 bel:Below base w0 w
 bs:base<=w.heap.size
 fin:∃n,∀i,n<=i->g.mu i=none/\g.tau i=none/\g.rm i=none
 st:Y.St g base w0
def KP (Pr:Nat->Prop) (w w':World):Prop:=w.heap.size<=w'.heap.size/\∀b,Pr b->w'.heap[b]?=w.heap[b]?
def KP.refl (Pr:Nat->Prop) (w:World):KP Pr w w:=⟨AS _,fun _ _=>rfl⟩
def KP.trans {Pr:Nat->Prop} {a b c:World} (h:KP Pr a b) (k:KP Pr b c):KP Pr a c:=
 ⟨Af h.1 k.1,fun x Z=>(k.2 x Z).trans (h.2 x Z)⟩
def SV (g:Gh) (lam:Nat->Option Nat):AV->Value->Prop
 | .lp k off,v=>∃b,lam k=some b/\v= .pointer (some ⟨b,off,none⟩)
 |x,v=>VR g x v
def SV.FT {g:Gh} {lam:Nat->Option Nat} (h:VR g x v):SV g lam x v:=by
 cases x<;>first|exact h|(cases h;done)
def AV.BS:AV->Bool
 | .lp _ _=>false
 |_=>true
def SV.vr {g:Gh} {lam:Nat->Option Nat} (hn:x.BS=true) (h:SV g lam x v):VR g x v:=by
 cases x<;>first|exact h|(cases hn;done)
abbrev Fm:=Nat->AV
variable {F':Fm}
abbrev Lm:=Nat->Option (List AV)
structure Bh (base:Nat) (g:Gh) (lam:Nat->Option Nat) (Pr:Nat->Prop) (N:Nat) (F:Fm) (L:Lm) (Y:AH) (a:Act) (w0 w:World):Prop where
 tm:∀s,SV g lam (F s) (a.tmps.getD s Cl)
 sz:a.tmps.size=N
 df:a.defers=[]
 loc:∀k cs,L k=some cs->Ax cs=true/\∃b vs ty,lam k=some b/\base<=b/\w.heap[b]?=some (.cells vs ty (0,0))/\VRs g cs vs.toList
 inj:∀k k' b,lam k=some b->lam k'=some b->k=k'
 npr:∀k b,lam k=some b->¬Pr b
 rel:Rel base g (fun b=>Pr b\/∃k,lam k=some b) Y w0 w
def AR (P:Program) (f:FuncId) (args:List AV) (Y:AH) (Q:AV->AH->Prop):Prop:=
 ∀(base:Nat) (g:Gh) (Pr:Nat->Prop) (w0 w:World) (vs:List Value),Rel base g Pr Y w0 w->VRs g args vs->
  Calls P f vs.toArray w fun e w'=>∃v av g' σ',e= .returned v/\VR g' av v/\Rel base g' Pr σ' w0 w'/\g.le g'/\KP Pr w w'/\Q av σ'
def AR.mono {P:Program} {f:FuncId} {args:List AV} {Y:AH} {Q Q':AV->AH->Prop} (h:AR P f args Y Q) (hq:∀v σ',Q v σ'->Q' v σ'):AR P f args Y Q':=
 fun base g Pr w0 w vs hr hv=>(h base g Pr w0 w vs hr hv).mono fun _ _ ⟨v,av,g',σ',a,b,c,d,e,q⟩=>⟨v,av,g',σ',a,b,c,d,e,hq _ _ q⟩
variable {base N:Nat} {g:Gh} {Pr:Nat->Prop} {Y:AH} {w0 w w':World} {lam:Nat->Option Nat} {F:Fm} {L:Lm} {a:Act}
def Rel.YK (h:Rel base g Pr Y w0 w) {o:Nat} (hi:g.im b o=some v):b < w.heap.size:=
 World.block_lt_of_cell? w ⟨b,o,none⟩ (h.im b o v hi)
def Rel.TB (h:Rel base g Pr Y w0 w) {i:Nat} (hi:Y.blk i=some cs) (hb:g.mu i=some b):b < w.heap.size:=by
 obtain ⟨b',hb',hs⟩:=h.shr i cs hi;rw [hb'] at hb;cases hb;obtain ⟨vs,ty,hv,_,_,_⟩:=hs.row;exact (Mj.1 hv).1
def AA8 {e size:Nat} (h:w.ownsRow base e size v n xs) (hb:∀b,v.ownBlock=some b->w'.heap[b]?=w.heap[b]?):w'.ownsRow base e size v n xs:=by
 refine ⟨h.1,?_⟩;rcases h.2 with hn|⟨gg,cap,cur,rfl,hbase,hgg,rest⟩
 . exact .inl hn
 . exact .inr ⟨gg,cap,cur,rfl,hbase,by rw [hb gg rfl];exact hgg,rest⟩
def Pq {e size:Nat} (h:R7 w base e size v n xs) (hb:∀b,Y3 v=some b->w'.heap[b]?=w.heap[b]?):R7 w' base e size v n xs:=by
 unfold R7 at h ⊢;unfold Y3 at hb;split at h
 . rename_i x Z;rw [Z] at hb;obtain ⟨h1,ents,clock,h2,h3⟩:=h;exact ⟨h1,ents,clock,by rw [hb x.1 rfl];exact h2,h3⟩
 . rename_i Z;rw [Z] at hb;exact AA8 h hb
def Rel.grow (h:Rel base g Pr Y w0 w) (hsz:w.heap.size<=w'.heap.size) (hb:∀b,b < w.heap.size->¬Pr b->w'.heap[b]?=w.heap[b]?)
 (hbel:Below base w w') {Pr':Nat->Prop} (hpr:∀b,Pr' b->b < w'.heap.size/\(Pr b\/w.heap.size<=b)):Rel base g Pr' Y w0 w':=by
 have him:∀b o v,g.im b o=some v->¬Pr b:=fun b o v hi hp=>by rw [(h.pr b hp).2 o] at hi;cases hi
 refine ⟨fun b o v hi=>?_,fun i cs hi=>?_,h.inj,fun t ht=>?_,fun b hp=>?_,h.bel.trans hbel,Af h.bs hsz,h.fin,h.st⟩
 . rw [World.cell?_of_block (w:=w) (hb b (h.YK hi) (him b o v hi))];exact h.im b o v hi
 . obtain ⟨b,hm,ho⟩:=h.shr i cs hi;obtain ⟨vs,ty,hv,hl,ht,hr⟩:=ho.row;have hlt:b < w.heap.size:=(Mj.1 hv).1;refine ⟨b,hm,ho.ok,⟨vs,ty,by rw [hb b hlt ho.pr];exact hv,hl,ht,hr⟩,ho.low,ho.im,fun hp=>?_⟩;rcases (hpr b hp).2 with hp|hp
   . exact ho.pr hp
   . omega
 . obtain ⟨v,e,size,n,xs,hm,hown,hrest⟩:=(h.tok t ht).row;refine ⟨v,e,size,n,xs,hm,Pq hown fun b hvb=>hb b (hown.lt b hvb).2 (hrest b hvb).2.1,fun b hvb=>?_⟩;obtain ⟨h1,h2,h3,h4⟩:=hrest b hvb;refine ⟨h1,fun hp=>?_,h3,h4⟩;rcases (hpr b hp).2 with hp|hp
   . exact h2 hp
   . have:=(hown.lt b hvb).2;omega
 . refine ⟨(hpr b hp).1,fun o=>?_⟩;rcases (hpr b hp).2 with hp|hp
   . exact (h.pr b hp).2 o
   . cases hi:g.im b o with
     |none=>rfl
     |some v=>have:=h.YK hi;omega
def Gh.settle (g:Gh) (b n:Nat) (vs:Array Value):Gh:=
 { g with im:=fun b' o=>if b'=b then (if o < n then vs[o]? else none) else g.im b' o}
def Rel.ZP (h:Rel base g Pr Y w0 w) (b n:Nat) (vs:Array Value) (hb:w.heap.size<=b):g.le (g.settle b n vs):=by
 refine ⟨fun b' o v hi=>?_,fun _ _ h=>h,fun _ _ h=>h,fun _ _ h=>h⟩;have:b'≠b:=fun e=>by have:=h.YK hi;omega
 simp [Gh.settle,this,hi]
def Rel.settle (h:Rel base g Pr Y w0 w) {b n:Nat} {vs:Array Value} (hb:w.heap.size<=b) (h':Rel base g Pr Y w0 w') (hc:∀o,w'.cell? ⟨b,o,none⟩=vs[o]?):Rel base (g.settle b n vs) Pr Y w0 w':=by
 have hle:=h.ZP b n vs hb;refine ⟨fun b' o v hi=>?_,fun i cs hi=>?_,h.inj,fun t ht=>?_,fun b' hp=>?_,h'.bel,h'.bs,h.fin,h.st.mono hle rfl rfl⟩
 . by_cases e:b'=b
   . subst e;simp only [Gh.settle,if_true] at hi;split at hi
     . rw [hc];exact hi
     . cases hi
   . simp only [Gh.settle,if_neg e] at hi;exact h'.im b' o v hi
 . obtain ⟨b',hm,ho⟩:=h'.shr i cs hi;have hlt:b' < w.heap.size:=h.TB hi hm;have hne:b'≠b:=by omega
   obtain ⟨vs',ty,hv,hl,ht,hr⟩:=ho.row;exact ⟨b',hm,ho.ok,⟨vs',ty,hv,hl,ht,hr.mono hle⟩,ho.low,fun o=>by simp [Gh.settle,hne,ho.im o],ho.pr⟩
 . obtain ⟨v,e,size,n',xs,hm,hown,hrest⟩:=(h'.tok t ht).row;refine ⟨v,e,size,n',xs,hm,hown,fun b' hvb=>?_⟩;obtain ⟨h1,h2,h3,h4⟩:=hrest b' hvb;obtain ⟨v2,e2,size2,n2,xs2,hm2,hown2,_⟩:=(h.tok t ht).row;rw [hm] at hm2;cases hm2;have hne:b'≠b:=by have:=(hown2.lt b' hvb).2;omega
   exact ⟨fun o ho=>by simp [Gh.settle,hne,h1 o ho],h2,h3,h4⟩
 . have hne:b'≠b:=fun e=>by have:=(h.pr b' hp).1;omega
   exact ⟨(h'.pr b' hp).1,fun o=>by simp [Gh.settle,hne,(h'.pr b' hp).2 o]⟩
def AH.AL (Y:AH) (i:Nat) (cs:List AV):AH:= { Y with blk:=fun j=>if j=i then some cs else Y.blk j}
def AH.Cs (Y:AH) (i:Nat):AH:= { Y with blk:=fun j=>if j=i then none else Y.blk j}
def AH.Bq (Y:AH) (t:Nat):AH:= { Y with tok:=fun j=>if j=t then true else Y.tok j}
def AH.CP (Y:AH) (t:Nat):AH:= { Y with tok:=fun j=>if j=t then false else Y.tok j}
def AH.Bl (Y:AH) (i:Nat) (x:Nat×TypeId):AH:= { Y with bt:=fun j=>if j=i then some x else Y.bt j}
structure AH.le (σ' Y:AH):Prop where
 blk:∀i cs,σ'.blk i=some cs->Y.blk i=some cs
 tok:∀t,σ'.tok t=true->Y.tok t=true
 gt:σ'.gt=Y.gt
 bt:∀i x,σ'.bt i=some x->Y.bt i=some x
def AH.le_refl (Y:AH):Y.le Y:=⟨fun _ _ h=>h,fun _ h=>h,rfl,fun _ _ h=>h⟩
def Rel.less (h:Rel base g Pr Y w0 w) {σ':AH} (hl:σ'.le Y):Rel base g Pr σ' w0 w:=by
 have hn:∀i,σ'.blk i≠none->Y.blk i≠none:=fun i hi e=>by
  cases hc:σ'.blk i with
  |none=>exact hi hc
  |some cs=>rw [hl.blk i cs hc] at e;cases e
 refine ⟨h.im,fun i cs hi=>h.shr i cs (hl.blk i cs hi),fun i j b hi hj=>h.inj i j b (hn i hi) (hn j hj),fun t ht=>?_,h.pr,h.bel,h.bs,h.fin,⟨fun b vs hv=>h.st.1 b vs (by rw [<- hl.gt];exact hv),fun i x Z=>h.st.2 i x (hl.bt i x Z)⟩⟩;obtain ⟨v,e,size,n,xs,hm,hown,hrest⟩:=(h.tok t (hl.tok t ht)).row;refine ⟨v,e,size,n,xs,hm,hown,fun b hvb=>?_⟩;obtain ⟨h1,h2,h3,h4⟩:=hrest b hvb;exact ⟨h1,h2,fun i hi=>h3 i (hn i hi),fun t' v' e' s' hne ht'=>h4 t' v' e' s' hne (hl.tok t' ht')⟩
def Rel.Bl (h:Rel base g Pr Y w0 w) {i:Nat} {x:Nat×TypeId} (Z:g.rm i=some x):Rel base g Pr (Y.Bl i x) w0 w:=
 ⟨h.im,h.shr,h.inj,fun t ht=>⟨(h.tok t ht).row⟩,h.pr,h.bel,h.bs,h.fin,h.st.1,fun j y hy=>by
   by_cases e:j=i
   . subst e;simp only [AH.Bl,if_true,AM] at hy;rw [<- hy];exact Z
   . simp only [AH.Bl,if_neg e] at hy;exact h.st.2 j y hy⟩
def Rel.fresh (h:Rel base g Pr Y w0 w):∃i,(g.mu i=none/\g.rm i=none)/\g.tau i=none/\Y.blk i=none/\Y.tok i=false:=by
 obtain ⟨n,hn⟩:=h.fin;refine ⟨n,⟨(hn n (AS _)).1,(hn n (AS _)).2.2⟩,(hn n (AS _)).2.1,?_,?_⟩
 . cases hc:Y.blk n with
   |none=>rfl
   |some cs=>obtain ⟨b,hb,_⟩:=h.shr n cs hc;rw [(hn n (AS _)).1] at hb;cases hb
 . cases hc:Y.tok n with
   |false=>rfl
   |true=>obtain ⟨v,e,s,m,xs,hm,_⟩:=(h.tok n hc).row;rw [(hn n (AS _)).2.1] at hm;cases hm
def Gh.share (g:Gh) (i b:Nat) (rt:Option (Nat×TypeId)):Gh:= { g with mu:=fun j=>if j=i then some b else g.mu j,rm:=fun j=>if j=i then rt else g.rm j}
def Gh.N1 {i:Nat} (hi:g.mu i=none/\g.rm i=none):g.le (g.share i b rt):=
 ⟨fun _ _ _ h=>h,fun j c h=>by have:j≠i:=fun e=>by rw [e,hi.1] at h;cases h
                               simp [Gh.share,this,h],fun _ _ h=>h,
  fun j c h=>by have:j≠i:=fun e=>by rw [e,hi.2] at h;cases h
                simp [Gh.share,this,h]⟩
def Rel.ABQ (h:Rel base g Pr Y w0 w) {i:Nat} (hi:g.mu i=none/\g.rm i=none) (hb:base<=b) (hno:∀j,Y.blk j≠none->g.mu j≠some b) (him:∀o,g.im b o=none)
 (htk:∀t v e s,Y.tok t=true->g.tau t=some (v,e,s)->Y3 v≠some b) {vs:Array Value} 
 (hv:w.heap[b]?=some (.cells vs ty (0,0))) (hl:cs.length<=vs.size) (hrt:∀t,rt=some t->vs.size=t.1/\ty=t.2) (hr:VRs g cs (vs.toList.take cs.length)) (hok:Ax cs=true) (hpr:¬Pr b):
 Rel base (g.share i b rt) Pr (Y.AL i cs) w0 w:=by
 have hle:=Gh.N1 (g:=g) (i:=i) (b:=b) (rt:=rt) hi
 have hne:∀j,Y.blk j≠none->j≠i:=fun j hj e=>by
  subst e;cases hc:Y.blk j with
  |none=>exact hj hc
  |some cs=>obtain ⟨b,hb,_⟩:=h.shr j cs hc;rw [hi.1] at hb;cases hb
 refine ⟨h.im,fun j cs' hj=>?_,fun j k b' hj hk hm hm'=>?_,fun t ht=>?_,h.pr,h.bel,h.bs,?_,h.st.mono hle rfl rfl⟩
 . by_cases e:j=i
   . subst e;simp only [AH.AL,if_true] at hj;cases hj;exact ⟨b,by simp [Gh.share],hok,⟨vs,ty,hv,hl,by simpa [Gh.share] using hrt,hr.mono hle⟩,hb,him,hpr⟩
   . simp only [AH.AL,if_neg e] at hj;obtain ⟨b',hm,ho⟩:=h.shr j cs' hj;obtain ⟨vs',ty',hv',hl',ht',hr'⟩:=ho.row;exact ⟨b',hle.mu _ _ hm,ho.ok,⟨vs',ty',hv',hl',by simpa [Gh.share,e] using ht',hr'.mono hle⟩,ho.low,ho.im,ho.pr⟩
 . by_cases e:j=i<;>by_cases e':k=i
   . omega
   . simp only [AH.AL,if_neg e'] at hk;simp only [Gh.share,if_neg e',if_pos e] at hm hm';cases hm;exact absurd hm' (hno k hk)
   . simp only [AH.AL,if_neg e] at hj;simp only [Gh.share,if_neg e,if_pos e'] at hm hm';cases hm';exact absurd hm (hno j hj)
   . simp only [AH.AL,if_neg e,if_neg e'] at hj hk;simp only [Gh.share,if_neg e,if_neg e'] at hm hm';exact h.inj j k b' hj hk hm hm'
 . obtain ⟨v,e,size,n,xs,hm,hown,hrest⟩:=(h.tok t ht).row;refine ⟨v,e,size,n,xs,hm,hown,fun b' hvb=>?_⟩;obtain ⟨h1,h2,h3,h4⟩:=hrest b' hvb;refine ⟨h1,h2,fun j hj=>?_,h4⟩;by_cases e':j=i
   . subst e';have:b≠b':=fun eb=>htk t v e size ht hm (eb ▸ hvb);simp [Gh.share];exact this
   . simp only [AH.AL,if_neg e'] at hj;simp only [Gh.share,if_neg e'];exact h3 j hj
 . obtain ⟨n,hn⟩:=h.fin;refine ⟨max n (i+1),fun j hj=>⟨?_,(hn j (by omega)).2.1,?_⟩⟩
   . have:j≠i:=by omega
     simp [Gh.share,this,(hn j (by omega)).1]
   . have:j≠i:=by omega
     simp [Gh.share,this,(hn j (by omega)).2.2]
def Rel.share (h:Rel base g Pr Y w0 w) {i:Nat} (hi:g.mu i=none/\g.rm i=none) (hb:w.heap.size<=b) (h':Rel base g Pr Y w0 w') {vs:Array Value} 
 (hv:w'.heap[b]?=some (.cells vs ty (0,0))) (hrt:∀t,rt=some t->vs.size=t.1/\ty=t.2) (hr:VRs g cs vs.toList) (hok:Ax cs=true) (hpr:¬Pr b):Rel base (g.share i b rt) Pr (Y.AL i cs) w0 w':=by
 have hlen:=hr.length;refine h'.ABQ hi (by have:=h.bs;omega) (fun j hj hm=>?_) (fun o=>?_) (fun t v e s ht hm hvb=>?_) hv (by simp at hlen;omega) hrt (by rw [<- hlen,BQ];exact hr) hok hpr
 . cases hc:Y.blk j with
   |none=>exact hj hc
   |some cs=>have:=h.TB hc hm;omega
 . cases hi':g.im b o with
   |none=>rfl
   |some v=>have:=h.YK hi';omega
 . obtain ⟨v2,e2,size2,n2,xs2,hm2,hown2,_⟩:=(h.tok t ht).row;rw [hm] at hm2;cases hm2;have:=(hown2.lt b hvb).2;omega
def Rel.write (h:Rel base g Pr Y w0 w) {i:Nat} {cs':List AV} (hi:Y.blk i=some cs) (hm:g.mu i=some b) (hsz:w.heap.size<=w'.heap.size)
 (hb:∀k,k < w.heap.size->k≠b->w'.heap[k]?=w.heap[k]?) (hbel:Below base w w') {vs:Array Value} 
 (hv:w'.heap[b]?=some (.cells vs ty (0,0))) (hl:cs'.length<=vs.size) (hrt:∀t,g.rm i=some t->vs.size=t.1/\ty=t.2) (hr:VRs g cs' (vs.toList.take cs'.length)) (hok:Ax cs'=true):Rel base g Pr (Y.AL i cs') w0 w':=by
 obtain ⟨b0,hm0,ho0⟩:=h.shr i cs hi;rw [hm] at hm0;cases hm0;have hpr:∀k,Pr k->k≠b:=fun k hk e=>ho0.pr (e ▸ hk)
 have hn:∀j,(Y.AL i cs').blk j≠none->Y.blk j≠none:=fun j hj e=>by
  by_cases e':j=i
  . subst e';rw [hi] at e;cases e
  . simp only [AH.AL,if_neg e'] at hj;exact hj e
 refine ⟨fun b' o v hb'=>?_,fun j cs2 hj=>?_,fun j k b' hj hk=>h.inj j k b' (hn j hj) (hn k hk),fun t ht=>?_,fun k hk=>?_,h.bel.trans hbel,Af h.bs hsz,h.fin,h.st⟩
 . have hne:b'≠b:=fun e=>by subst e;rw [ho0.im o] at hb';cases hb'
   rw [World.cell?_of_block (w:=w) (hb b' (h.YK hb') hne)];exact h.im b' o v hb'
 . by_cases e:j=i
   . subst e;simp only [AH.AL,if_true] at hj;cases hj;exact ⟨b,hm,hok,⟨vs,ty,hv,hl,hrt,hr⟩,ho0.low,ho0.im,ho0.pr⟩
   . simp only [AH.AL,if_neg e] at hj;obtain ⟨b',hm',ho⟩:=h.shr j cs2 hj;obtain ⟨vs',ty',hv',hl',ht',hr'⟩:=ho.row;have hne:b'≠b:=fun e'=>e (h.inj j i b (by rw [hj];simp) (by rw [hi];simp) (e' ▸ hm') hm);exact ⟨b',hm',ho.ok,⟨vs',ty',by rw [hb b' (h.TB hj hm') hne];exact hv',hl',ht',hr'⟩,ho.low,ho.im,ho.pr⟩
 . obtain ⟨v,e,size,n,xs,hmt,hown,hrest⟩:=(h.tok t ht).row;refine ⟨v,e,size,n,xs,hmt,Pq hown fun b' hvb=>?_,fun b' hvb=>?_⟩
   . exact hb b' (hown.lt b' hvb).2 fun e'=>(hrest b' hvb).2.2.1 i (by rw [hi];simp) (e' ▸ hm)
   . obtain ⟨h1,h2,h3,h4⟩:=hrest b' hvb;exact ⟨h1,h2,fun j hj=>h3 j (hn j hj),h4⟩
 . exact ⟨by have:=(h.pr k hk).1;omega,(h.pr k hk).2⟩
section
variable {P:Program} (w:World)
def Eo (base:Nat) (t ty e:TypeId) (i:TypeInfo) (z:Value) (size bytes:Nat) (ht:P.underlying t=some (.slice e)) (hi:P.info? e=some i) (hz:i.zero=some z)
 (hsize:i.size=size) (hby:i.bytes=bytes) (hzs:z.cells.size=size)
 (v:Value) (n:Nat) (xs:List Value) (hown:w.ownsRow base e size v n xs)
 (a:Addr) (m c:Nat) (news:List Value) (hl:news.length=m * size) (hnews:∀j u,news[j]?=some u->w.cell? (a.add j)=some u) (h1:∀u∈news,u.oneCell'=true)
 (h63:n+m<=maxLen) (hbytes:(n+m) * bytes<=140737488355328) (hbase:base<=w.heap.size):
 ∃v' w',(Builtin.append_ #[t,t] ty #[v,.slice (some a) m c]).run P w= .ok v' w'/\w'.ownsRow base e size v' (n+m) (xs++news)/\w.grownBy w' v'.ownBlock/\
  (∀k,v'.ownBlock=some k->v.ownBlock=some k\/w.heap.size<=k):=by
 subst hsize;subst hby
 have hsmall:n+m<=9223372036854775807:=by simp only [maxLen] at h63;omega
 have hlen:(xs++news).length=(n+m) * i.size:=by rw [AY,hown.1,hl,Bs]
 have grown:∀(old:Nat),old < n+m->∀(row:Option Nat),
  (w.drew.alloc (.cells (xs.toArray++news.toArray++Builtin.zeroCells z.cells (grownCap w (n+m) old e - (n+m))) e)).ownsRow base e i.size
    (.slice (some ⟨w.heap.size,0,none⟩) (n+m) (grownCap w (n+m) old e)) (n+m) (xs++news)/\
  w.grownBy (w.drew.alloc (.cells (xs.toArray++news.toArray++Builtin.zeroCells z.cells (grownCap w (n+m) old e - (n+m))) e)) row:=by
  intro old ho row;have hge:=grownCap_ge w (n+m) old e;have hcm:grownCap w (n+m) old e<=maxLen:=grownCap_le_maxLen w (n+m) old e h63;refine ⟨⟨hlen,.inr ⟨w.heap.size,_,_,rfl,hbase,heap_alloc_new w.drew _,hge,hcm,?_,?_⟩⟩,⟨rfl,rfl,rfl,by simp,fun k hk _=>heap_alloc_old w.drew _ k hk⟩⟩
  . simp only [Array.size_append,TI,size_zeroCells,hzs,hown.1,hl,<- Bs];congr 1;omega
  . simp only [Array.toList_append,Aq];rw [<- Aq,<- hlen];exact List.take_left
 rcases hown.2 with ⟨rfl,rfl⟩|⟨g,cap,cur,rfl,hbg,hg,hnc,hcm,hcs,htake⟩
 . have Z:xs=[]:=An (by simpa using hown.1);subst Z;by_cases hm:m=0
   . subst hm;have hn:news=[]:=An (by simpa using hl);subst hn;refine ⟨.slice none 0 0,w,?_,World.ownsRow_nil w base e i.size,⟨rfl,rfl,rfl,AS _,fun _ _ _=>rfl⟩,by simp [Value.ownBlock]⟩;simp [Builtin.append_,run_underlying ht,sizeOf,typeInfo,hi,Builtin.lenOf,Builtin.firstCells,loadCells,loadCellsFrom]
   . have hr:=run_append_nil (P:=P) w t ty e i z ht hi hz a m c news hl hnews (by omega) (by omega) (by have hb:=hbytes;simp only [BF] at hb;omega);have hgr:=grown 0 (by omega) (some w.heap.size);simp only [BF,Ag,Array.empty_append] at hgr ⊢;exact ⟨_,_,hr,hgr.1,hgr.2,fun k hk=>.inr (by simp [Value.ownBlock] at hk;omega)⟩
 . by_cases hroom:n+m<=cap
   . have hfit:n * i.size+news.length<=cur.size:=by rw [hl,hcs,<- Bs];exact Bi _ hroom
     have hr:=run_append_room (P:=P) w t ty e i ht hi g n cap cur hg a m c news hl hnews h1 hroom hfit;refine ⟨_,_,hr,⟨hlen,.inr ⟨g,cap,_,rfl,hbg,setRow_heap w g cur _ e _ hg,hroom,hcm,?_,?_⟩⟩,⟨rfl,rfl,rfl,by simp,fun k _ hk=>setRow_other w g k _ (fun e=>hk (by simp [Value.ownBlock,e]))⟩,fun k hk=>.inl hk⟩
     . simp only [TI,AY,B5,Df,Ir];omega
     . rw [htake,<- hlen];exact List.take_left
   . have holds:∀j u,xs[j]?=some u->w.cell? ((⟨g,0,none⟩:Addr).add j)=some u:=hown.cells (g:=g) rfl;have hr:=run_append_grow (P:=P) w t ty e i z ht hi hz ⟨g,0,none⟩ n cap xs hown.1 holds a m c news hl hnews (by omega) (by omega) (growslice_fits (by omega) hbytes);have hgr:=grown cap (by omega) (some w.heap.size);exact ⟨_,_,hr,hgr.1,hgr.2,fun k hk=>.inr (by simp [Value.ownBlock] at hk;omega)⟩
end
variable {base N:Nat} {g:Gh} {Pr:Nat->Prop} {Y:AH} {w0 w w':World} {lam:Nat->Option Nat} {F:Fm} {L:Lm} {a:Act}
def Gh.grow (g:Gh) (v':Value) (e size t':Nat) (ys:List Value):Gh:=
 { im:=fun b o=>if v'.ownBlock=some b then ys[o]? else g.im b o,mu:=g.mu,tau:=fun t=>if t=t' then some (v',e,size) else g.tau t,rm:=g.rm}
def uU (base:Nat) (g:Gh) (Pr:Nat->Prop) (Y:AH) (w:World) (e size:Nat) (v:Value) (n:Nat) (xs:List Value):Prop:=
 w.ownsRow base e size v n xs/\∀b,v.ownBlock=some b->(∀o,n * size<=o->g.im b o=none)/\¬Pr b/\(∀i,Y.blk i≠none->g.mu i≠some b)/\
  (∀t' v' e' s',Y.tok t'=true->g.tau t'=some (v',e',s')->Y3 v'≠some b)
def Rel.pE (h:Rel base g Pr Y w0 w) {e size t':Nat} {v':Value} (hmine:uU base g Pr Y w e size v n xs)
 (hwh:∀k,v'.ownBlock=some k->v.ownBlock=some k\/w.heap.size<=k) (ht':g.tau t'=none):g.le (g.grow v' e size t' (xs++news)):=by
 refine ⟨fun b o u hu=>?_,fun _ _ h=>h,fun t x Z=>?_,fun _ _ h=>h⟩
 . simp only [Gh.grow];split
   . rename_i hb;rcases hwh b hb with hvb|hge
     . have hlt:o < n * size:=by
        rcases C8 o (n * size) with h1|h1
        . exact h1
        . rw [(hmine.2 b hvb).1 o h1] at hu;cases hu
       have hxl:o < xs.length:=by rw [hmine.1.1];exact hlt
       have hc:=hmine.1.cells hvb o xs[o] (by simp [hxl]);rw [Addr.add_lit,BF,h.im b o u hu] at hc;cases hc;simp [BC hxl,hxl]
     . have:=h.YK hu;omega
   . exact hu
 . have:t≠t':=fun e=>by rw [e,ht'] at Z;cases Z
   simp [Gh.grow,this,Z]
def Rel.AYO (h:Rel base g Pr Y w0 w) {e size m t':Nat} {v':Value} (hmine:uU base g Pr Y w e size v n xs)
 (hown':w'.ownsRow base e size v' (n+m) (xs++news)) (hg:w.grownBy w' v'.ownBlock) (hwh:∀k,v'.ownBlock=some k->v.ownBlock=some k\/w.heap.size<=k) (ht':g.tau t'=none):
 Rel base (g.grow v' e size t' (xs++news)) Pr (Y.Bq t') w0 w':=by
 have hle:=h.pE (news:=news) hmine hwh ht'
 have hnot:∀b,v'.ownBlock=some b->¬Pr b/\(∀i,Y.blk i≠none->g.mu i≠some b)/\(∀t2 v2 e2 s2,Y.tok t2=true->g.tau t2=some (v2,e2,s2)->Y3 v2≠some b):=by
  intro b hb;rcases hwh b hb with hvb|hge
  . exact (hmine.2 b hvb).2
  . refine ⟨fun hp=>?_,fun i hi hm=>?_,fun t2 v2 e2 s2 ht2 hm2 hb2=>?_⟩
    . have:=(h.pr b hp).1;omega
    . cases hc:Y.blk i with
      |none=>exact hi hc
      |some cs=>have:=h.TB hc hm;omega
    . obtain ⟨v3,e3,s3,n3,xs3,hm3,hown3,_⟩:=(h.tok t2 ht2).row;rw [hm2] at hm3;cases hm3;have:=(hown3.lt b hb2).2;omega
 have hsame:∀b,b < w.heap.size->v'.ownBlock≠some b->w'.heap[b]?=w.heap[b]?:=fun b hb hne=>hg.block b hb (A6 hne);have hbel:Below base w w':=⟨hg.os,hg.tape,hg.output,hg.size,fun k hk=>hsame k (by have:=h.bs;omega) fun e=>by have:=(hown'.lt k e).1;omega⟩;refine ⟨fun b o u hu=>?_,fun i cs hi=>?_,h.inj,fun t ht=>?_,fun b hp=>?_,h.bel.trans hbel,Af h.bs hg.size,?_,h.st.mono hle rfl rfl⟩
 . simp only [Gh.grow] at hu;split at hu
   . rename_i hb;have:=hown'.cells hb o u hu
     rwa [Addr.add_lit,BF] at this
   . rename_i hb;rw [World.cell?_of_block (w:=w) (hsame b (h.YK hu) hb)];exact h.im b o u hu
 . have hi:Y.blk i=some cs:=hi;obtain ⟨b,hm,ho⟩:=h.shr i cs hi;obtain ⟨vs,ty,hv,hl,ht,hr⟩:=ho.row;have hb:v'.ownBlock≠some b:=fun e=>(hnot b e).2.1 i (by rw [hi];simp) hm;refine ⟨b,hm,ho.ok,⟨vs,ty,by rw [hsame b (h.TB hi hm) hb];exact hv,hl,ht,hr.mono hle⟩,ho.low,fun o=>?_,ho.pr⟩;simp [Gh.grow,hb,ho.im o]
 . by_cases e':t=t'
   . subst e';refine ⟨v',e,size,n+m,xs++news,by simp [Gh.grow],AN1 hown',fun b hb=>?_⟩;rw [sP hown'] at hb;refine ⟨fun o ho=>?_,(hnot b hb).1,(hnot b hb).2.1,fun t2 v2 e2 s2 hne ht2 hm2=>?_⟩
     . simp only [Gh.grow,hb,if_true];rw [List.getElem?_eq_none_iff,hown'.1];exact ho
     . simp only [AH.Bq,if_neg hne] at ht2;simp only [Gh.grow,if_neg hne] at hm2;exact (hnot b hb).2.2 t2 v2 e2 s2 ht2 hm2
   . simp only [AH.Bq,if_neg e'] at ht;obtain ⟨v2,e2,s2,n2,xs2,hm2,hown2,hrest⟩:=(h.tok t ht).row;have hdiff:∀b,Y3 v2=some b->v'.ownBlock≠some b:=fun b hb e=>(hnot b e).2.2 t v2 e2 s2 ht hm2 hb;refine ⟨v2,e2,s2,n2,xs2,by simp [Gh.grow,e',hm2],Pq hown2 fun b hb=>hsame b (hown2.lt b hb).2 (hdiff b hb),fun b hb=>?_⟩;obtain ⟨k1,k2,k3,k4⟩:=hrest b hb;refine ⟨fun o ho=>by simp [Gh.grow,hdiff b hb,k1 o ho],k2,k3,fun t3 v3 e3 s3 hne ht3 hm3=>?_⟩;by_cases e3':t3=t'
     . subst e3';simp only [Gh.grow,if_true] at hm3;cases hm3;rw [sP hown'];exact hdiff b hb
     . simp only [AH.Bq,if_neg e3'] at ht3;simp only [Gh.grow,if_neg e3'] at hm3;exact k4 t3 v3 e3 s3 hne ht3 hm3
 . have hb:v'.ownBlock≠some b:=fun e=>(hnot b e).1 hp;exact ⟨Be (h.pr b hp).1 hg.size,fun o=>by simp [Gh.grow,hb,(h.pr b hp).2 o]⟩
 . obtain ⟨k,hk⟩:=h.fin;refine ⟨max k (t'+1),fun i hi=>⟨(hk i (by omega)).1,?_,(hk i (by omega)).2.2⟩⟩;have:i≠t':=by omega
   simp [Gh.grow,this,(hk i (by omega)).2.1]
def Rel.AY0 (h:Rel base g Pr Y w0 w) {t e size:Nat} (ht:Y.tok t=true) (hm:g.tau t=some (v,e,size)) (hd:AL1 v=none):
 ∃n xs,uU base g Pr (Y.CP t) w e size v n xs:=by
 obtain ⟨v2,e2,s2,n2,xs2,hm2,hown2,hrest⟩:=(h.tok t ht).row;rw [hm] at hm2;cases hm2;have hown3:w.ownsRow base e size v n2 xs2:=by unfold R7 at hown2;rw [hd] at hown2;exact hown2
 refine ⟨n2,xs2,hown3,fun b hb=>?_⟩;rw [<- sP hown3] at hb;obtain ⟨k1,k2,k3,k4⟩:=hrest b hb;refine ⟨k1,k2,k3,fun t' v' e' s' ht'=>?_⟩;have hne:t'≠t:=fun e=>by subst e;simp [AH.CP] at ht'
 simp only [AH.CP,if_neg hne] at ht';exact k4 t' v' e' s' hne ht'
def AH.ZF (Y:AH) (t:Nat):(Y.CP t).le Y:=⟨fun _ _ h=>h,fun t' h=>by
 by_cases e:t'=t
 . subst e;simp [AH.CP] at h
 . simpa [AH.CP,e] using h,rfl,fun _ _ h=>h⟩
def uU.nil (base:Nat) (g:Gh) (Pr:Nat->Prop) (Y:AH) (w:World) (e size:Nat):uU base g Pr Y w e size (.slice none 0 0) 0 []:=
 ⟨World.ownsRow_nil w base e size,fun b hb=>by simp [Value.ownBlock] at hb⟩
inductive X where
 |t (n:Nat)
 |c (v:AV)
variable {cps:List (Nat×Nat×X)}
inductive EK where
 |usd
 |wZ (ne:Bool)
 |apps (e:Nat)
 |AJG (e:Nat)
 |alt (t:Nat) (z:List AV)
 |ACF (e s:Nat)
 |mmk
 |AIA
 |ANK
 |AA3
inductive O where
 |mv (x:X)
 |pick (c a b:X)
 |fld (x:X) (off:Nat)
 |ld (x:X) (n:Option Nat)
 |ix (x i:X) (size:Nat)
 |AST (x i:X)
 |len (x:X)
 |AOL (x:X)
 |bin (op:BinOp) (x y:X)
 |APN (op:BinOp) (x y:X)
 |un (op:UnOp) (x:X)
 |conv (k:IntKind) (x:X)
 |bld (z:List AV) (parts:List (Nat×Nat×X))
 |bsl (size len:Nat) (z:List AV) (parts:List (Nat×Nat×X))
 |mkf (f:FuncId) (first caps:List X)
 |ext (x:X) (i:Nat)
 |nck (x:X)
 |mm (isMax:Bool) (x y:X)
 |box (x:X) (sh:Bool)
 |al (z:List AV) (sh:Bool)
 |st (x v:X) (n:Nat)
 |msl (e size bytes:Nat) (z:List AV) (l c:X)
 |app (e size bytes:Nat) (s x:X)
 |call (f:FuncId) (args:List X)
 |aR (x:X) (args:List X)
 |mF (f:FuncId) (args:List X)
 |ldl (x:X) (n:Option Nat)
 |fd (x:X) (off:Nat) (n:Option Nat)
 |ssl (x:X) (lo hi:Option X)
 |sls (x:X) (lo hi mx:Option X) (size:Nat)
 |AIL (ne:Bool) (x:X)
 |AI8 (ne:Bool) (n:Nat) (x y:X)
 |mm3 (isMax:Bool) (x y z:X)
 |APP (x:X)
 |uV (e size bytes:Nat) (s x:X)
 |trn (x hi:X)
 |mW (e size len:Nat) (z:List AV) (parts:List (Nat×Nat×X))
 |ex (k:EK) (xs:List X)
 |fT (s:Bool) (m k v:X)
variable {c:O}
structure Q where
 dst:Option Nat
 o:O
 grd:Option (Nat×Bool)
def xv (F:Fm):X->AV
 | .t n=>F n
 | .c v=>v
def put (d:Nat) (v:AV) (F:Fm):Fm:=fun s=>if s=d then v else F s
def BL (d:Option Nat) (v:AV) (F:Fm):Fm:=match d with|some d=>put d v F|none=>F
def At (d:Nat) (cs:List AV) (L:Lm):Lm:=fun s=>if s=d then some cs else L s
def AV.dv:AV->Option DV
 | .d x=>some x
 | .Ad=>some (.sl [])
 | .own _ _ _ rows=>some (.sl rows)
 | .clip rows=>some (.sl rows)
 | .EO=>some .EO
 |_=>none
def AV.rows:AV->Option (List (List DV))
 | .d (.sl rows)=>some rows
 | .Ad=>some []
 | .own _ _ _ rows=>some rows
 | .clip rows=>some rows
 |_=>none
def AG5:AV->Nat->Option AV
 | .lp k o,n=>some (.lp k (o+n))
 | .gp i o,n=>some (.gp i (o+n))
 | .ep r o,n=>some (.ep r (o+n))
 | .d (.ptr r),n=>some (.ep r n)
 |_,_=>none
def AJT (v:AV):Option AV:=if v.B1 then some v else none
def bY {v u:AV} (h:AJT v=some u):u=v/\v.B1=true:=by
 unfold AJT at h;split at h
 . cases h;exact ⟨rfl,by assumption⟩
 . cases h
def rdC (cs:List AV) (o:Nat):Option Nat->Option AV
 |none=>(cs[o]?).bind AJT
 |some n=>if o+n<=cs.length then some (.agg ((cs.drop o).take n)) else none
def ldA (L:Lm) (Y:AH):AV->Option Nat->Option AV
 | .lp k o,n=>(L k).bind (rdC · o n)
 | .gp i o,n=>(Y.blk i).bind (rdC · o n)
 | .ep r o,n=>rdC (r.map AV.d) o n
 | .d (.ptr r),n=>rdC (r.map AV.d) 0 n
 |_,_=>none
def AAX (L:Lm):AV->Option Nat->Option AV
 | .lp k o,n=>(L k).bind (rdC · o n)
 |_,_=>none
def ixR (rows:List (List DV)) (n:Int) (size:Nat):Option AV:=
 if 0<=n then (rows[n.toNat]?).bind fun r=>if r.length=size then some (.ep r 0) else none else none
def ixA:AV->AV->Nat->Option AV
 | .ms i n _ _,.d (.int _ m),size=>if 0<=m/\m < n then some (.gp i (m.toNat * size)) else none
 | .mv i o n s _,.d (.int _ m),size=>if (0<=m/\m < n)/\s=size then some (.gp i ((o+m.toNat) * size)) else none
 | .d (.sl rows),.d (.int _ m),size=>ixR rows m size
 | .own _ _ _ rows,.d (.int _ m),size=>ixR rows m size
 | .clip rows,.d (.int _ m),size=>ixR rows m size
 |_,_,_=>none
def tT:AV->AV->Option AV
 | .d (.str s),.d (.int _ m)=>if 0<=m then (s[m.toNat]?).map fun b=>.d (.int .u8 b.toNat) else none
 |_,_=>none
def y5:AV->Option AV
 | .d (.str s)=>some (.d (.int .i64 s.length))
 |_=>none
def Tx:AV->Option AV
 | .d (.sl rows)=>some (.d (.int .i64 rows.length))
 | .Ad=>some (.d (.int .i64 0))
 | .own _ _ _ rows=>some (.d (.int .i64 rows.length))
 | .clip rows=>some (.d (.int .i64 rows.length))
 | .ms _ n _ _=>some (.d (.int .i64 n))
 | .mv _ _ n _ _=>some (.d (.int .i64 n))
 |_=>none
def AMV (op:BinOp) (k:IntKind) (a b:Int):Option AV:=
 match op with
 | .add=>some (.d (.int k (k.wrap (a+b))))
 | .sub=>some (.d (.int k (k.wrap (a - b))))
 | .mul=>some (.d (.int k (k.wrap (a * b))))
 | .quo=>if b=0 then none else some (.d (.int k (k.wrap (a.tdiv b))))
 | .rem=>if b=0 then none else some (.d (.int k (a.tmod b)))
 | .eql=>some (.d (.bool (a==b)))
 | .neq=>some (.d (.bool (a != b)))
 | .lss=>some (.d (.bool (decide (a < b))))
 | .leq=>some (.d (.bool (decide (a<=b))))
 | .gtr=>some (.d (.bool (decide (b < a))))
 | .geq=>some (.d (.bool (decide (b<=a))))
 |_=>none
def ABU (op:BinOp) (x y:List UInt8):Option AV:=
 match op with
 | .add=>if x.length+y.length<=maxLen then some (.d (.str (x++y))) else none
 | .eql=>some (.d (.bool (x==y)))
 | .neq=>some (.d (.bool (!(x==y))))
 | .lss=>some (.d (.bool (Op.bytesLess x y)))
 | .leq=>some (.d (.bool (Op.bytesLess x y||x==y)))
 | .gtr=>some (.d (.bool (!(Op.bytesLess x y||x==y))))
 | .geq=>some (.d (.bool (!Op.bytesLess x y)))
 |_=>none
def ALK:BinOp->AV->AV->Option AV
 |op,.d (.int k a),.d (.int k' b)=>if k=k' then AMV op k a b else none
 |op,.d (.str a),.d (.str b)=>ABU op a b
 |_,_,_=>none
def xJ:BinOp->AV->AV->Option AV
 | .eql,.d (.bool a),.d (.bool b)=>some (.d (.bool (a==b)))
 | .neq,.d (.bool a),.d (.bool b)=>some (.d (.bool (!(a==b))))
 |_,_,_=>none
def unA:UnOp->AV->Option AV
 | .not,.d (.bool b)=>some (.d (.bool (!b)))
 | .neg,.d (.int k n)=>some (.d (.int k (k.wrap (0 - n))))
 |_,_=>none
def xS:IntKind->AV->Option AV
 |k,.d (.int _ n)=>some (.d (.int k (k.wrap n)))
 |_,_=>none
def AKK (v:AV):Option AV:=if v.BS then some v else none
def sN {v u:AV} (h:AKK v=some u):u=v/\v.BS=true:=by
 unfold AKK at h;split at h
 . cases h;exact ⟨rfl,by assumption⟩
 . cases h
def AL8:AV->Nat->Option AV
 | .tup vs,i=>(vs[i]?).bind AKK
 |_,_=>none
def ARN:AV->Option AV
 | .gp i o=>some (.gp i o)
 | .lp k o=>some (.lp k o)
 | .ep r o=>some (.ep r o)
 | .d (.ptr r)=>some (.d (.ptr r))
 |_=>none
def Zu:AV->Option Nat
 | .d (.int _ n)=>if 0<=n then some n.toNat else none
 |_=>none
def mV (n:Nat) (lo hi:Option AV):Option (Nat×Nat):=
 (match lo with|none=>some 0|some x=>Zu x).bind fun l=>(match hi with|none=>some n|some x=>Zu x).bind fun h=>if l<=h/\h<=n then some (l,h) else none
def Yl (x:AV) (lo hi:Option AV):Option AV:=
 match x with
 | .d (.str s)=>(mV s.length lo hi).map fun b=>.d (.str ((s.take b.2).drop b.1))
 |_=>none
def ABR (rows:List (List DV)) (size:Nat):Bool:=rows.all fun r=>r.length==size
def AI5 (rows:List (List DV)) (lo hi mx:Option AV) (size:Nat):Option AV:=
 if lo.isNone||ABR rows size then
  (mV rows.length lo hi).bind fun b=>
    match hi,mx with
    |_,none=>some (.d (.sl ((rows.take b.2).drop b.1)))
    |some _,some m=>if Zu m=some b.2 then some (.clip ((rows.take b.2).drop b.1)) else none
    |_,_=>none
           else none
def AOM (x:AV) (lo hi mx:Option AV) (size:Nat):Option AV:=
 match x,lo,hi,mx with
 | .Ad,none,some h,none=>if Zu h=some 0 then some .Ad else none
 | .ms i n s e,some l,none,none=>(Zu l).bind fun l=>if l<=n/\s=size then some (.mv i l (n - l) s e) else none
 | .ms i n s e,none,some h,none=>(Zu h).bind fun h=>if h<=n then some (.ms i h s e) else none
 |x,lo,hi,mx=>(x.rows).bind fun rows=>AI5 rows lo hi mx size
def yS (ne:Bool):AV->Option AV
 | .EO=>some (.d (.bool (!ne)))
 | .d .EO=>some (.d (.bool (!ne)))
 | .d (.ptr _)=>some (.d (.bool ne))
 | .gp _ _=>some (.d (.bool ne))
 | .ep _ _=>some (.d (.bool ne))
 | .lp _ _=>some (.d (.bool ne))
 |_=>none
def Nv:List AV->List AV->Option Bool
 |[],[]=>some true
 | .d (.int k a)::l,.d (.int k' b)::m=>if k=k' then (Nv l m).map fun r=>a==b&&r else none
 |_,_=>none
def y6 (ne:Bool) (n:Nat):AV->AV->Option AV
 | .agg l,.agg m=>if l.length=n then (Nv l m).map (fun r=>.d (.bool (if ne then !r else r))) else none
 |_,_=>none
def fdA:AV->Nat->Option Nat->Option AV
 | .agg cs,off,n=>rdC cs off n
 |_,_,_=>none
def mmA (isMax:Bool):AV->AV->Option AV
 | .d (.int k a),.d (.int k' b)=>if k=k' then some (.d (.int k (if isMax then (if b>a then b else a) else (if b < a then b else a)))) else none
 |_,_=>none
def Jz (z:List AV) (F:Fm):List (Nat×Nat×X)->Option (List AV)
 |[]=>some z
 |(off,size,x)::rest=>
  let cs:=(xv F x).cells
  if Ax cs&&cs.length==size&&decide (off+size<=z.length) then Jz (z.take off++cs++z.drop (off+size)) F rest else none
def dvs:List AV->Option (List DV)
 |[]=>some []
 |c::cs=>do some ((<- c.dv)::(<- dvs cs))
def chunk (size:Nat):Nat->List DV->List (List DV)
 |0,_=>[]
 |n+1,l=>l.take size::chunk size n (l.drop size)
def xvs (F:Fm) (l:List X):List AV:=l.map (xv F)
def AED:AV->AV->AV->Option AV
 | .d (.bool c),a,b=>some (if c then a else b)
 |_,_,_=>none
def Ba (s:List UInt8):List (List DV):=s.map fun b=>[.int .u8 b.toNat]
def byteOf:List DV->Option UInt8
 |[.int .u8 n]=>if 0<=n/\n < 256 then some (UInt8.ofNat n.toNat) else none
 |_=>none
def bytesOf:List (List DV)->Option (List UInt8)
 |[]=>some []
 |r::l=>(byteOf r).bind fun b=>(bytesOf l).map (b::·)
def EK.pure:EK->Bool
 | .usd=>true
 |_=>false
def xW:EK->List AV->Option AV
 | .usd,[.own t e 1 (r::rows)]=>(bytesOf (r::rows)).map fun s=>.bp t e s
 |_,_=>none
def exP (k:EK) (args:List AV):Option AV:=if args.all AV.BS then xW k args else none
def AA4:AV->Option Bool
 | .Ad=>some true
 | .d (.sl (_::_))| .own _ _ _ (_::_)| .clip (_::_)=>some false
 | .ms _ _ _ _| .mv _ _ _ _ _=>some false
 |_=>none
def pv (F:Fm) (L:Lm) (Y:AH):O->Option AV
 | .mv x=>some (xv F x)
 | .pick c a b=>AED (xv F c) (xv F a) (xv F b)
 | .fld x off=>AG5 (xv F x) off
 | .ld x n=>ldA L Y (xv F x) n
 | .ix x i size=>ixA (xv F x) (xv F i) size
 | .AST x i=>tT (xv F x) (xv F i)
 | .len x=>Tx (xv F x)
 | .AOL x=>y5 (xv F x)
 | .bin op x y=>ALK op (xv F x) (xv F y)
 | .APN op x y=>xJ op (xv F x) (xv F y)
 | .un op x=>unA op (xv F x)
 | .conv k x=>xS k (xv F x)
 | .bld z ps=>(Jz z F ps).map .agg
 | .bsl size len z ps=>((Jz z F ps).bind dvs).map fun l=>.d (.sl (chunk size len l))
 | .mkf f first caps=>if (xvs F first++xvs F caps).all AV.BS then some (.fn f (xvs F first) (xvs F caps)) else none
 | .ext x i=>AL8 (xv F x) i
 | .nck x=>ARN (xv F x)
 | .mm b x y=>mmA b (xv F x) (xv F y)
 | .ldl x n=>AAX L (xv F x) n
 | .fd x off n=>fdA (xv F x) off n
 | .ssl x lo hi=>Yl (xv F x) (lo.map (xv F)) (hi.map (xv F))
 | .sls x lo hi mx size=>AOM (xv F x) (lo.map (xv F)) (hi.map (xv F)) (mx.map (xv F)) size
 | .AIL ne x=>yS ne (xv F x)
 | .AI8 ne n x y=>y6 ne n (xv F x) (xv F y)
 | .mm3 b x y z=>(mmA b (xv F x) (xv F y)).bind fun v=>mmA b v (xv F z)
 | .APP x=>(dvs (xv F x).cells).map fun ds=>.d (.ptr ds)
 | .ex k xs=>exP k (xvs F xs)
 |_=>none
def cv:Value->Option AV
 | .bool b=>some (.d (.bool b))
 | .int k n=>if k.min<=n/\n<=k.max then some (.d (.int k n)) else none
 | .string s=>if s.data.toList.length<=maxLen then some (.d (.str s.data.toList)) else none
 | .slice none 0 0=>some .Ad
 | .pointer none=>some .EO
 | .nilFunc=>some .HG
 |_=>none
def xo:Operand->Option X
 | .tmp n=>some (.t n)
 | .const v=>some (.c ((cv v).getD .undef))
 | .func f=>some (.c (.fn f [] []))
 | .global _=>none
def xos:List Operand->Option (List X)
 |[]=>some []
 |x::l=>do some ((<- xo x)::(<- xos l))
def cvs:List Value->Option (List AV)
 |[]=>some []
 |v::l=>do some ((<- cv v)::(<- cvs l))
def WK (P:Program) (t:TypeId):Option (List AV):=do
 let i <- P.info? t
 let z <- i.zero
 cvs z.cells.toList
def szT (P:Program) (t:TypeId):Option Nat:=(P.info? t).map (·.size)
def ldN (P:Program) (t:TypeId):Option (Option Nat):=
 match P.underlying t with
 |some (.struct _)|some (.array _ _)=>(szT P t).map some
 |some _=>some none
 |none=>none
def AMA (P:Program) (s:TypeId) (f:Nat):Option Nat:=
 match P.underlying s with
 |some (.struct fs)=>(fs[f]?).bind fun fd=>(szT P fd.type).bind fun n=>if n=0 then none else some fd.offset
 |_=>none
def T3 (P:Program) (t:TypeId):Option TypeId:=
 match P.underlying t with
 |some (.slice e)=>some e
 |_=>none
def places (P:Program) (t:TypeId):Option (Nat->Option (Nat×Nat)):=
 match P.underlying t with
 |some (.struct fs)=>(fs.toList.mapM fun f=>(P.info? f.type).map fun i=>(f.offset,i.size)).map fun ps i=>ps.toArray[i]?
 |some (.array _ e)=>(P.info? e).map fun ie i=>some (i * ie.size,ie.size)
 |_=>none
def VS (pl:Nat->Option (Nat×Nat)):List (Nat×Operand)->Option (List (Nat×Nat×X))
 |[]=>some []
 |(i,x)::l=>do
  let (off,n) <- pl i
  let x <- xo x
  some ((off,n,x)::(<- VS pl l))
def xoo:Option Operand->Option (Option X)
 |none=>some none
 |some y=>(xo y).map some
def AHY (P:Program) (t:TypeId):Bool:=match P.underlying t with|some (.int _)=>true|_=>false
def AR7 (op:BinOp) (x y:Operand):Option O:=
 match op,y with
 | .eql,.const (.pointer none)=>(xo x).map (.AIL false ·)
 | .neq,.const (.pointer none)=>(xo x).map (.AIL true ·)
 |_,_=>none
def sT {op:BinOp} {x:Operand} (h:AR7 op x y=some c):y= .const (.pointer none)/\∃ne x',op=(if ne then .neq else .eql)/\xo x=some x'/\c= .AIL ne x':=by
 unfold AR7 at h;split at h
 . simp only [AK] at h;obtain ⟨x',Z,rfl⟩:=h;exact ⟨rfl,false,x',rfl,Z,rfl⟩
 . simp only [AK] at h;obtain ⟨x',Z,rfl⟩:=h;exact ⟨rfl,true,x',rfl,Z,rfl⟩
 . cases h
def AYK (P:Program) (s:TypeId) (f:Nat):Option (Option Nat):=
 match P.underlying s with
 |some (.struct fs)=>(fs[f]?).bind fun fd=>ldN P fd.type
 |_=>none
def y7 (op:BinOp) (n:Nat) (x y:Operand):Option O:=
 match op with
 | .eql=>(xo x).bind fun a=>(xo y).map (.AI8 false n a ·)
 | .neq=>(xo x).bind fun a=>(xo y).map (.AI8 true n a ·)
 |_=>none
def tX {op:BinOp} {x:Operand} (h:y7 op n x y=some c):∃ne x' y',op=(if ne then .neq else .eql)/\xo x=some x'/\xo y=some y'/\c= .AI8 ne n x' y':=by
 unfold y7 at h;split at h
 . simp only [AB,AK] at h;obtain ⟨x',Z,y',hy,rfl⟩:=h;exact ⟨false,x',y',rfl,Z,hy,rfl⟩
 . simp only [AB,AK] at h;obtain ⟨x',Z,y',hy,rfl⟩:=h;exact ⟨true,x',y',rfl,Z,hy,rfl⟩
 . cases h
def AZJ (P:Program) (e:TypeId) (x:Operand) (lo hi mx:Option Operand):Option O:=
 match lo,hi,mx with
 |none,some h,none=>(xo x).bind fun a=>(xo h).bind fun b=>(szT P e).map fun _=>.trn a b
 |_,_,_=>none
def zC {P:Program} {x:Operand} {lo hi mx:Option Operand} (h:AZJ P e x lo hi mx=some c):
 lo=none/\∃z,hi=some z/\mx=none/\∃a b sz,xo x=some a/\xo z=some b/\szT P e=some sz/\c= .trn a b:=by
 unfold AZJ at h;split at h
 . simp only [AB,AK] at h;obtain ⟨a,ha,b,hb,sz,hsz,rfl⟩:=h;exact ⟨rfl,_,rfl,rfl,a,b,sz,ha,hb,hsz,rfl⟩
 . cases h
def Tp (P:Program) (t:TypeId):Bool:=
 match P.underlying t with
 |some (.struct fs)=>(fs.toList.zipIdx.all fun (f,i)=>f.offset==i&&f.name != "_"&&AHY P f.type)&&szT P t==some fs.size&& !P.stoodInHeld t&& !P.eqGuardType P.depth t
 |_=>false
def AP2 (P:Program) (sh:Bool):Builtin->List Operand->List TypeId->Option O
 | .len,[x],[t]=>match P.underlying t with
  |some .string=>(xo x).map .AOL
  |some (.slice _)=>(xo x).map .len
  |_=>none
 | .max,[x,y],_=>do some (.mm true (<- xo x) (<- xo y))
 | .max,[x,y,z],_=>do some (.mm3 true (<- xo x) (<- xo y) (<- xo z))
 | .min,[x,y],_=>do some (.mm false (<- xo x) (<- xo y))
 | .append,[s,x],[t,u]=>do
  let e <- T3 P t
  let i <- P.info? e
  let z <- i.zero
  if t=u/\z.cells.size=i.size/\0 < i.size then (do
   let a <- xo s
   let b <- xo x
   some (if sh then .uV e i.size i.bytes a b else .app e i.size i.bytes a b)) else none
 |_,_,_=>none
def eQ (P:Program) (sh:Bool) (c:Call):Option O:=
 match c.callee with
 | .builtin b=>AP2 P sh b c.args.toList c.argTypes.toList
 | .value (.func f)=>
  if ((P.funcs[f]?).bind (·.body)).isSome&&((P.funcs[f]?).map (·.name)) != some "runtime.NumGoroutine" then (xos c.args.toList).map (.call f ·) else none
 | .value (.tmp n)=>(xos c.args.toList).map (.aR (.t n) ·)
 |_=>none
def xQ (P:Program) (sh im lc:Bool):Op->Option O
 | .move x| .assign x=>(xo x).map .mv
 | .pick c a b=>do some (.pick (<- xo c) (<- xo a) (<- xo b))
 | .alloc t=>(WK P t).map (.al · sh)
 | .box _ x=>(xo x).map fun x=>if im then .APP x else .box x sh
 | .field s x f=>do some (.fd (<- xo x) (<- AMA P s f) (<- AYK P s f))
 | .slice t x lo hi mx=>match P.underlying t with
  |some .string=>match mx with
   |none=>do some (.ssl (<- xo x) (<- xoo lo) (<- xoo hi))
   |some _=>none
  |some (.slice e)=>if sh then AZJ P e x lo hi mx else do some (.sls (<- xo x) (<- xoo lo) (<- xoo hi) (<- xoo mx) (<- szT P e))
  |_=>none
 | .fieldAddr s x f=>do some (.fld (<- xo x) (<- AMA P s f))
 | .load t x=>do
  let a <- xo x
  let n <- ldN P t
  some (if lc then .ldl a n else .ld a n)
 | .store t x v=>do some (.st (<- xo x) (<- xo v) (<- szT P t))
 | .indexAddr t x i=>do some (.ix (<- xo x) (<- xo i) (<- szT P (<- T3 P t)))
 | .index t x i=>match P.underlying t with
  |some .string=>do some (.AST (<- xo x) (<- xo i))
  |_=>none
 | .binOp op t x y _=>match P.underlying t with
  |some .bool=>do some (.APN op (<- xo x) (<- xo y))
  |some (.int _)|some .string=>do some (.bin op (<- xo x) (<- xo y))
  |some (.pointer _)=>AR7 op x y
  |some (.struct fs)=>if Tp P t then y7 op fs.size x y else none
  |_=>none
 | .unOp op _ x=>do some (.un op (<- xo x))
 | .convert s t x=>match P.underlying s,P.underlying t with
  |some (.int _),some (.int k)=>do some (.conv k (<- xo x))
  |_,_=>none
 | .build t ps=>do
  let z <- WK P t
  let pl <- places P t
  some (.bld z (<- VS pl ps.toList))
 | .buildSlice t len ps=>do
  let e <- T3 P t
  let z <- WK P e
  let n <- szT P e
  if z.length=n/\0 < n/\len * n<=4096/\len<=4096 then
   (do
     let cp <- VS (fun i=>some (i * n,n)) ps.toList
     some (if sh then .mW e n len (AG len z).flatten cp else .bsl n len (AG len z).flatten cp))
                                                                          else none
 | .makeFunc (.func f) first caps=>do some (.mkf f (<- xos first.toList) (<- xos caps.toList))
 | .extract x i=>(xo x).map (.ext · i)
 | .nilCheck x=>(xo x).map .nck
 | .makeSlice t l c=>do
  let e <- T3 P t
  let i <- P.info? e
  let z <- WK P e
  if z.length=i.size/\0 < i.size then some (.msl e i.size i.bytes z (<- xo l) (<- xo c)) else none
 | .call c=>eQ P sh c
 |_=>none
def AbB (P:Program) (e:TypeId):Bool:=match P.underlying e with|some (.int .u8)=>true|_=>false
def AP4 (P:Program) (im:Bool):Builtin->List Operand->List TypeId->Option O
 | .append,[s,x],[t,u]=>(T3 P t).bind fun e=>(P.info? e).bind fun i=>if im then (if t=u/\0 < i.size/\i.bytes<=10000/\i.zero.map (·.cells.size)=some i.size then (xo s).bind fun a=>(xo x).map fun b=>.ex (.ACF e i.size) [a,b] else none) else i.zero.bind fun z=>match P.underlying u with
  |some .string=>match z with
   | .int .u8 0=>if i.size=1/\i.bytes=1/\AbB P e then (xo s).bind fun a=>(xo x).map fun b=>.ex (.apps e) [a,b] else none
   |_=>none
  |_=>none
 | .unsafeSliceData,[x],[t]=>match P.underlying t with
  |some (.slice _)=>(xo x).map fun a=>.ex .usd [a]
  |_=>none
 | .unsafeString,[x,y],[pt,_]=>match P.underlying pt with
  |some (.pointer e)=>if AbB P e/\P.cellsOf e=1 then (xo x).bind fun a=>(xo y).map fun b=>.ex (.AJG e) [a,b] else none
  |_=>none
 | .len,[x],[t]=>match P.underlying t with
  |some (.map _ _)=>(xo x).map fun a=>.ex .AIA [a]
  |_=>none
 |_,_,_=>none
def rX (P:Program) (e:TypeId):Bool:=match P.underlying e with|some (.int .i64)=>true|_=>false
def MO (P:Program) (k:TypeId):Bool:=match P.underlying k with
 |some (.struct fs)=>(match fs.toList with
  |[f,g]=>f.name != "_"&&g.name != "_"&&f.offset==0&&g.offset==1&&rX P f.type&&(match P.underlying g.type with|some .string=>true|_=>false)
  |_=>false)&& !P.stoodInHeld k
 |_=>false
def zB (P:Program) (e:TypeId):Bool:=match P.info? e with
 |some i=>match i.zero with|some (.bool false)=>true|_=>false
 |none=>false
def AW5 (P:Program) (e:TypeId):Bool:=match P.info? e with
 |some i=>match i.zero with|some (.int .i64 0)=>true|_=>false
 |none=>false
def AP3 (P:Program) (sh im:Bool):Op->Option O
 | .alloc t=>if sh then (WK P t).map fun z=>.ex (.alt t z) [] else none
 | .binOp op t x y _=>match P.underlying t,y with
  |some (.slice _),.const (.slice none 0 0)=>match op with
   | .eql=>(xo x).map fun a=>.ex (.wZ false) [a]
   | .neq=>(xo x).map fun a=>.ex (.wZ true) [a]
   |_=>none
  |_,_=>none
 | .makeMap _ none=>some (.ex .mmk [])
 | .lookup t x y true=>match P.underlying t with
  |some (.map k e)=>if rX P k=true/\AW5 P e=true then (xo x).bind fun a=>(xo y).map fun b=>.ex .ANK [a,b] else none
  |_=>none
 | .lookup t x y false=>match P.underlying t with
  |some (.map k e)=>if MO P k=true/\zB P e=true then (xo x).bind fun a=>(xo y).map fun b=>.ex .AA3 [a,b] else none
  |_=>none
 | .mapUpdate t x y z=>match P.underlying t with
  |some (.map k _)=>if rX P k=true\/MO P k=true then (xo x).bind fun a=>(xo y).bind fun b=>(xo z).map fun c=>.fT (MO P k) a b c else none
  |_=>none
 | .call c=>match c.callee with
  | .builtin b=>AP4 P im b c.args.toList c.argTypes.toList
  |_=>none
 |_=>none
variable {P:Program} {base N:Nat} {g:Gh} {Pr:Nat->Prop} {Y:AH} {w0 w w':World} {lam:Nat->Option Nat} {F:Fm} {L:Lm} {a:Act}
def VOp (P:Program) (o:Oper) (F:Fm) (L:Lm) (Y:AH) (v:AV):Prop:=
 ∀(base:Nat) (g:Gh) (lam:Nat->Option Nat) (Pr:Nat->Prop) (N:Nat) (a:Act) (w0 w:World),Bh base g lam Pr N F L Y a w0 w->
  ∃x g' w',(execOp a.eval o).run P w= .ok (.value x) w'/\g.le g'/\KP Pr w w'/\SV g' lam v x/\Bh base g' lam Pr N F L Y a w0 w'
def VOp.same {v:AV}
 (h:∀(base:Nat) (g:Gh) (lam:Nat->Option Nat) (Pr:Nat->Prop) (N:Nat) (a:Act) (w0 w:World),Bh base g lam Pr N F L Y a w0 w->
   ∃x,(execOp a.eval o).run P w= .ok (.value x) w/\SV g lam v x):VOp P o F L Y v:=by
 intro base g lam Pr N a w0 w hf;obtain ⟨x,hr,hs⟩:=h base g lam Pr N a w0 w hf;exact ⟨x,g,w,hr,Gh.le_refl g,KP.refl Pr w,hs,hf⟩
def AC3 (h:cv v=some x) (g:Gh):VR g x v:=by
 unfold cv at h;split at h
 . cases h;exact .d .bool
 . split at h
   . rename_i hk;cases h;exact .d (.int hk)
   . cases h
 . rename_i s;split at h
   . rename_i hl;cases h;have:(HC s.data.toList.toArray)=s:=by cases s;simp
     have hh:VR g (.d (.str s.data.toList)) (.string ⟨s.data.toList.toArray⟩):= .d (.str hl)
     rwa [this] at hh
   . cases h
 . cases h;exact .Ad
 . cases h;exact .EO
 . cases h;exact .HG
 . cases h
def AT6 (h:cv v=some x):x.B1=true:=by
 unfold cv at h;split at h<;>first|(cases h;rfl)|(split at h<;>first|(cases h;rfl)|cases h)|cases h
def SV.mono {g g':Gh} (hg:g.le g') {x:AV} {v:Value} (h:SV g lam x v):SV g' lam x v:=by
 cases x<;>first|exact VR.mono hg h|exact h
def Ah {x:X} (Z:xo y=some x) (h:Bh base g lam Pr N F L Y a w0 w):SV g lam (xv F x) (a.eval y):=by
 cases y with
 |tmp n=>simp only [xo,AM] at Z;subst Z;exact h.tm n
 |const v=>
  simp only [xo,AM] at Z;subst Z;cases hc:cv v with
  |none=>exact SV.FT (x:= .undef) .undef
  |some c=>exact SV.FT (AC3 hc g)
 |func f=>
  simp only [xo,AM] at Z;subst Z;exact VR.fn (fs:=[]) (cs:=[]) rfl rfl (by simp) (by simp)
 |global _=>cases Z
def B4 {t:TypeId} {d:TypeDesc} (h:P.underlying t=some d):(underlying t).run P w= .ok d w:=by
 simp [underlying,h]
def Ew {t:TypeId} (h:szT P t=some n):(sizeOf t).run P w= .ok n w:=by
 simp only [szT,AK] at h;obtain ⟨i,hi,rfl⟩:=h;simp [sizeOf,typeInfo,hi]
def tO {t:TypeId} (h:ldN P t=some none):(isAgg t).run P w= .ok false w:=by
 unfold ldN at h;cases hu:P.underlying t with
 |none=>rw [hu] at h;cases h
 |some d=>
  rw [hu] at h;cases d<;>first|(simp [isAgg,B4 hu];done)|(exfalso;cases hs:szT P t<;>simp [hs] at h)
def tP {t:TypeId} (h:ldN P t=some (some n)):(isAgg t).run P w= .ok true w/\szT P t=some n:=by
 unfold ldN at h;cases hu:P.underlying t with
 |none=>rw [hu] at h;cases h
 |some d=>
  rw [hu] at h;cases d<;>simp at h<;>exact ⟨by simp [isAgg,B4 hu],h⟩
def VM {t:TypeId} {n:Option Nat} (ht:ldN P t=some n) {o:Nat} {v:AV} (hr:VRs g cs vs) (hc:Ax cs=true)
 (hcell:∀j u,vs[j]?=some u->w.cell? ⟨b,off+j,none⟩=some u) (hv:rdC cs o n=some v):
 ∃x,(Instr.loadAt t (.pointer (some ⟨b,off+o,none⟩))).run P w= .ok x w/\VR g v x:=by
 cases n with
 |none=>
  simp only [rdC,AB] at hv;obtain ⟨v0,hv,hcv⟩:=hv;obtain ⟨rfl,_⟩:=bY hcv;obtain ⟨x,Z,hvr⟩:=hr.at o _ hv;exact ⟨x,by simp [Instr.loadAt,Instr.sureAddr,loadVar,tO ht,hcell o x Z],hvr⟩
 |some n=>
  simp only [rdC] at hv;split at hv
  . rename_i hle;cases hv;obtain ⟨h1,h2⟩:=tP (w:=w) ht;have hlen:=hr.length;have hrr:=(hr.drop o).take n;refine ⟨.agg ((vs.drop o).take n).toArray,?_,.agg (by simp [hlen]) ?_ (fun i c u hc hu=>hrr.idx i c u hc hu)⟩
    . have hl:((vs.drop o).take n).length=n:=by simp;omega
      have hload:=run_loadCells_list (P:=P) w ⟨b,off+o,none⟩ ((vs.drop o).take n) (fun j u hu=>by
       rw [Addr.add_lit];rw [B2] at hu;split at hu
       . rw [BN] at hu;rw [Nat.add_assoc];exact hcell (o+j) u hu
       . cases hu)
      rw [hl] at hload;simp [Instr.loadAt,Instr.sureAddr,loadVar,h1,Ew h2,hload]
    . intro c hcm;have:c∈cs:=Hw (CZ hcm);simp only [Ax,Aj] at hc;exact hc c this
  . cases hv
def ACU {vs:Array Value} {fr:Nat×Nat} (h:w.heap[b]?=some (.cells vs ty fr)):∀j u,vs.toList[j]?=some u->w.cell? ⟨b,0+j,none⟩=some u:=by
 intro j u hu;rw [BF,cell_of_row w b j vs ty fr h];simpa using hu
def Xb (r:List DV):Ax (r.map AV.d)=true:=by simp [Ax,AV.B1]
def AD0 {t:TypeId} {n:Option Nat} (ht:ldN P t=some n) (h:Bh base g lam Pr N F L Y a w0 w) (hp:SV g lam p pvl) {v:AV} (hv:ldA L Y p n=some v):
 ∃x,(Instr.loadAt t pvl).run P w= .ok x w/\VR g v x:=by
 cases p with
 |lp k o=>
  obtain ⟨b,hb,rfl⟩:=hp;simp only [ldA,AB] at hv;obtain ⟨cs,hcs,hv⟩:=hv;obtain ⟨hok,b',vs,ty,hb',_,hheap,hrs⟩:=h.loc k cs hcs;rw [hb] at hb';cases hb';have:=VM (P:=P) (w:=w) (off:=0) ht hrs hok (ACU hheap) hv;simpa using this
 |gp i o=>
  simp only [ldA,AB] at hv;obtain ⟨cs,hcs,hv⟩:=hv;obtain ⟨b,hb,ho⟩:=h.rel.shr i cs hcs;obtain ⟨vs,ty,hheap,_,_,hrs⟩:=ho.row;cases hp with
  |gp hm=>
   rw [hb] at hm;cases hm
   have:=VM (P:=P) (w:=w) (off:=0) ht hrs ho.ok (fun j u hu=>ACU hheap j u (by
    rw [B2] at hu;split at hu
    . exact hu
    . cases hu)) hv
   simpa using this
 |d x=>
  cases x<;>simp only [ldA] at hv<;>try (cases hv;done)
  rename_i r;cases hp with
  |d hp=>cases hp with
   |@ptr _ b o2 f hi hr=>
    have hrs:VRs g (r.map AV.d) ((Av r.length).map f):=by
     refine VRs.So _ _ (by simp) fun i c u hc hu=>?_;rw [Am,AK] at hc hu;obtain ⟨x,Z,rfl⟩:=hc;obtain ⟨j,hj,rfl⟩:=hu
     have hji:i=j:=by
      rw [Dy (by have:=(AE.1 Z).1;omega)] at hj;simpa using hj
     subst hji;exact .d (hr i x Z)
    exact VM (P:=P) (w:=w) (off:=o2) (o:=0) ht hrs (Xb r) (fun j u hu=>by
     rw [Am,AK] at hu;obtain ⟨i,hi',rfl⟩:=hu
     have hlt:j < r.length:=by
      rcases C8 j r.length with h1|h1
      . exact h1
      . simp [h1] at hi'
     rw [Dy hlt] at hi';cases hi';exact h.rel.im _ _ _ (hi j hlt)) hv
 |ep r o=>
  cases hp with
  |@ep _ _ b o2 f hi hr=>
   have hrs:VRs g (r.map AV.d) ((Av r.length).map f):=by
    refine VRs.So _ _ (by simp) fun i c u hc hu=>?_;rw [Am,AK] at hc hu;obtain ⟨x,Z,rfl⟩:=hc;obtain ⟨j,hj,rfl⟩:=hu
    have hji:i=j:=by
     rw [Dy (by have:=(AE.1 Z).1;omega)] at hj;simpa using hj
    subst hji;exact .d (hr i x Z)
   exact VM (P:=P) (w:=w) (off:=o2) ht hrs (Xb r) (fun j u hu=>by
    rw [Am,AK] at hu;obtain ⟨i,hi',rfl⟩:=hu
    have hlt:j < r.length:=by
     rcases C8 j r.length with h1|h1
     . exact h1
     . simp [h1] at hi'
    rw [Dy hlt] at hi';cases hi';exact h.rel.im _ _ _ (hi j hlt)) hv
 |_=>simp [ldA] at hv
variable {P:Program} {base N:Nat} {g:Gh} {Pr:Nat->Prop} {Y:AH} {w0 w w':World} {lam:Nat->Option Nat} {F:Fm} {L:Lm} {a:Act}
def AMH {s f:Nat} (ho:AMA P s f=some off) {v:AV} (hp:SV g lam p pvl) (hv:AG5 p off=some v):
 ∃x,(Instr.fieldAt s pvl f).run P w= .ok x w/\SV g lam v x:=by
 unfold AMA at ho;cases hu:P.underlying s with
 |none=>rw [hu] at ho;cases ho
 |some d=>
  rw [hu] at ho;cases d<;>try (cases ho;done)
  rename_i fs;simp only [AB] at ho;obtain ⟨fd,hfd,n,hn,hoff⟩:=ho;split at hoff
  . cases hoff
  . rename_i hn0;cases hoff
    have key:∀b o,(Instr.fieldAt s (.pointer (some ⟨b,o,none⟩)) f).run P w= .ok (.pointer (some ⟨b,o+fd.offset,none⟩)) w:=by
     intro b o;simp [Instr.fieldAt,B4 hu,hfd,Instr.sureAddr,fieldPlace,Ew hn,hn0,Addr.add_lit]
    cases p with
    |lp k o=>obtain ⟨b,hb,rfl⟩:=hp;cases hv;exact ⟨_,key b o,b,hb,rfl⟩
    |gp i o=>cases hv;cases hp with|gp hm=>exact ⟨_,key _ o,.gp hm⟩
    |ep r o=>
     cases hv;cases hp with
     |@ep _ _ b o2 ff hi hr=>
      refine ⟨_,key b (o2+o),?_⟩;rw [Nat.add_assoc];exact VR.ep hi hr
    |d x=>
     cases x<;>simp only [AG5] at hv<;>try (cases hv;done)
     cases hv;cases hp with
     |d hp=>cases hp with
      |@ptr _ b o2 ff hi hr=>exact ⟨_,key b o2,VR.ep hi hr⟩
    |_=>simp [AG5] at hv
def AM6 {rows:List (List DV)} {m:Int} {size:Nat} {v:AV} (hv:ixR rows m size=some v) {sv:Value} (hs:RD g.im (.sl rows) sv):
 ∃b off cap r,sv= .slice (some ⟨b,off,none⟩) rows.length cap/\0<=m/\m < rows.length/\rows[m.toNat]?=some r/\v= .ep r 0/\VR g v (.pointer (some ⟨b,off+m.toNat * size,none⟩)):=by
 unfold ixR at hv;split at hv
 . rename_i h0;simp only [AB] at hv;obtain ⟨r,hr,hv⟩:=hv;split at hv
   . rename_i hl;cases hv;have hlt:=(AE.1 hr).1;cases hs with
     |nil=>simp at hr
     |@sl _ b off cap size' f hc hm hsz hi hrr=>
      have hsz':size'=size:=by rw [<- hl];exact (hsz r (AD hr)).symm
      subst hsz';refine ⟨b,off,cap,r,rfl,h0,by omega,hr,rfl,?_⟩;exact VR.ep (o:=off+m.toNat * size') (off:=0) (f:=f m.toNat) (fun j hj=>hi _ _ hlt (by omega)) (fun j x Z=>hrr _ _ _ _ hr Z)
   . cases hv
 . cases hv
def AQ5 {t e size:Nat} (he:T3 P t=some e) (hsz:szT P e=some size) {v:AV} (hp:SV g lam p pvl) (hq:SV g lam q qvl)
 (hv:ixA p q size=some v):∃x,(Instr.indexAt t pvl qvl).run P w= .ok x w/\SV g lam v x:=by
 have hu:P.underlying t=some (.slice e):=by
  unfold T3 at he;split at he
  . rename_i e' hh;cases he;exact hh
  . cases he
 have key:∀(rows:List (List DV)) (k:IntKind) (m:Int),RD g.im (.sl rows) pvl->q= .d (.int k m)->ixR rows m size=some v->∃x,(Instr.indexAt t pvl qvl).run P w= .ok x w/\SV g lam v x:=by
  intro rows k m hs hqe hr;subst hqe;cases hq with
  |d hd=>
   cases hd;obtain ⟨b,off,cap,r,rfl,h0,h1,hrr,rfl,hvr⟩:=AM6 hr hs;exact ⟨_,by simp [Instr.indexAt,asIntOf,B4 hu,Ew hsz,h0,h1,Addr.add_lit],SV.FT hvr⟩
 unfold ixA at hv;split at hv
 . rename_i i n k m;split at hv
   . rename_i hb;cases hv;cases hp with
     |@ms _ _ _ _ b cap hm hrm hn hmx=>
      cases hq with
      |d hd=>
       cases hd;exact ⟨.pointer (some ⟨b,m.toNat * size,none⟩),by simp [Instr.indexAt,asIntOf,B4 hu,Ew hsz,hb.1,hb.2,Addr.add_lit],.gp hm⟩
   . cases hv
 . rename_i i o n s e1 k m;split at hv
   . rename_i hb;obtain ⟨hb,rfl⟩:=hb;cases hv;cases hp with
     |@mv _ _ _ _ _ b oa cap hm hrm hn hmx ho=>
      cases hq with
      |d hd=>
       cases hd;have hoo:=ho (by omega);subst hoo;exact ⟨.pointer (some ⟨b,(o+m.toNat) * s,none⟩),by simp [Instr.indexAt,asIntOf,B4 hu,Ew hsz,hb.1,hb.2,Addr.add_lit,Bs],.gp hm⟩
   . cases hv
 . cases hp with|d hd=>exact key _ _ _ hd rfl hv
 . cases hp with|own hd _ _=>exact key _ _ _ hd rfl hv
 . cases hp with|clip hd=>exact key _ _ _ hd rfl hv
 . cases hv
def RD.OE {rows:List (List DV)} (h:RD im (.sl rows) v):∃a cap,v= .slice a rows.length cap/\rows.length<=maxLen:=by
 cases h with
 |nil=>exact ⟨_,_,rfl,FO _⟩
 |sl hc hm _ _ _=>exact ⟨_,_,rfl,Af hc hm⟩
def fE (h:n<=maxLen):IntKind.i64.has n:=by
 simp only [maxLen] at h;unfold IntKind.has IntKind.min IntKind.max IntKind.signed IntKind.bits;simp;omega
def AND {t:TypeId} (ht:P.underlying t=some (.slice e)) {v:AV} (hty:TypeId) (hp:SV g lam p pvl) (hv:Tx p=some v):
 ∃x,(Builtin.len_ #[t] hty #[pvl]).run P w= .ok x w/\SV g lam v x:=by
 have key:∀rows:List (List DV),RD g.im (.sl rows) pvl->v= .d (.int .i64 rows.length)->∃x,(Builtin.len_ #[t] hty #[pvl]).run P w= .ok x w/\SV g lam v x:=by
  intro rows hr he;subst he;obtain ⟨a,cap,rfl,hl⟩:=hr.OE;exact ⟨_,by simp [Builtin.len_,B4 ht,goInt],.d (.int (fE hl))⟩
 cases p with
 |d x=>cases x with
  |sl rows=>simp only [Tx,AM] at hv;cases hp with|d h=>exact key rows h hv.symm
  |_=>cases hv
 |Ad=>cases hv;cases hp;exact ⟨_,by simp [Builtin.len_,B4 ht,goInt],.d (.int (fE (FO _)))⟩
 |own t' e' s' rows=>simp only [Tx,AM] at hv;cases hp with|own h _ _=>exact key rows h hv.symm
 |clip rows=>simp only [Tx,AM] at hv;cases hp with|clip h=>exact key rows h hv.symm
 |mv i o n s e=>simp only [Tx,AM] at hv;subst hv;cases hp with|mv h hr hn hm ho=>exact ⟨_,by simp [Builtin.len_,B4 ht,goInt],.d (.int (fE (show n<=maxLen by omega)))⟩
 |ms i n s e=>simp only [Tx,AM] at hv;subst hv;cases hp with|ms h hr hn hm=>exact ⟨_,by simp [Builtin.len_,B4 ht,goInt],.d (.int (fE (Af hn hm)))⟩
 |_=>cases hv
def AI4 {t:TypeId} (ht:P.underlying t=some .string) {v:AV} (hty:TypeId) (hp:SV g lam p pvl) (hv:y5 p=some v):
 ∃x,(Builtin.len_ #[t] hty #[pvl]).run P w= .ok x w/\SV g lam v x:=by
 cases p with
 |d x=>cases x with
  |str s=>
   simp only [y5,AM] at hv;subst hv;cases hp with
   |d h=>cases h with
    |str hl=>
     have hs:(HC s.toArray).size=s.length:=by show s.toArray.size=s.length;simp
     exact ⟨_,by simp [Builtin.len_,B4 ht,goInt,hs],.d (.int (fE hl))⟩
  |_=>cases hv
 |_=>cases hv
def AI2 {t:TypeId} (ht:P.underlying t=some .string) {v:AV} (hp:SV g lam p pvl) (hq:SV g lam q qvl) (hv:tT p q=some v):
 ∃x,(Instr.index t pvl qvl).run P w= .ok x w/\SV g lam v x:=by
 unfold tT at hv;split at hv
 . rename_i s k m;split at hv
   . rename_i h0;simp only [AK] at hv;obtain ⟨b,hb,rfl⟩:=hv;cases hp with
     |d h=>cases h;cases hq with
      |d h=>cases h;exact ⟨.int .u8 b.toNat,by
       have hlt:=(AE.1 hb).1
       have:(HC s.toArray)[m.toNat]?=some b:=by
        have h1:m.toNat < (HC s.toArray).size:=by simpa [ByteArray.size] using hlt
        rw [getElem?_pos (HC s.toArray) m.toNat h1];have h2:=(AE.1 hb).2;show some (s.toArray[m.toNat]'_)=some b;simp [h2]
       simp [Instr.index,asIntOf,B4 ht,h0,this],.d (.int (by
        have:=b.toNat_lt;unfold IntKind.has IntKind.min IntKind.max IntKind.signed IntKind.bits;simp;omega))⟩
   . cases hv
 . cases hv
def Td (k:IntKind) (n:Int):k.has (k.wrap n):=by
 unfold IntKind.has IntKind.wrap IntKind.min IntKind.max;cases k<;>simp [IntKind.signed,IntKind.bits]<;>(try split)<;>omega
def AQX {k:IntKind} {a b:Int} (ha:k.has a):k.has (a.tmod b):=by
 unfold IntKind.has IntKind.min IntKind.max at *
 have h1:0<=a->0<=a.tmod b/\a.tmod b<=a:=fun h=>⟨Int.tmod_nonneg b h,by
  have:(a.tmod b).natAbs<=a.natAbs:=by rw [Int.natAbs_tmod];exact Nat.mod_le _ _
  have:=Int.tmod_nonneg b h;omega⟩
 have h2:a<=0->a<=a.tmod b/\a.tmod b<=0:=fun h=>by
  have h3:(a.tmod b).natAbs<=a.natAbs:=by rw [Int.natAbs_tmod];exact Nat.mod_le _ _
  have h4:a.tmod b=-((-a).tmod b):=by rw [Int.neg_tmod,Int.neg_neg]
  have h5:=Int.tmod_nonneg b (show 0<=-a by omega);omega
 cases k<;>simp [IntKind.signed,IntKind.bits] at *<;>(rcases Int.le_total 0 a with h|h<;>first|(have:=h1 h;omega)|(have:=h2 h;omega))
def oV {op:BinOp} {t:TypeId} (y z:Operand) (k k':IntKind) (a b:Int):(eqGuard op t y z (.int k a) (.int k' b)).run P w= .ok () w:=by
 unfold eqGuard;cases op<;>simp
def oW {op:BinOp} {t:TypeId} (y z:Operand) (a b:ByteArray):(eqGuard op t y z (.string a) (.string b)).run P w= .ok () w:=by
 unfold eqGuard;cases op<;>simp
def UL {op:BinOp} {t:TypeId} (y z:Operand) (a b:Bool):(eqGuard op t y z (.bool a) (.bool b)).run P w= .ok () w:=by
 unfold eqGuard;cases op<;>simp
def AMW {op:BinOp} {t:TypeId} {k:IntKind} {a b:Int} {v:AV} (ha:k.has a) (hv:AMV op k a b=some v):
 ∃x,(binOp op t (.int k a) (.int k b)).run P w= .ok x w/\VR g v x:=by
 cases op<;>simp only [AMV] at hv<;>try (cases hv;done)
 case add=>cases hv;exact ⟨_,by simp [binOp,Op.intArith],.d (.int (Td _ _))⟩
 case sub=>cases hv;exact ⟨_,by simp [binOp,Op.intArith],.d (.int (Td _ _))⟩
 case mul=>cases hv;exact ⟨_,by simp [binOp,Op.intArith],.d (.int (Td _ _))⟩
 case quo=>
  split at hv
  . cases hv
  . rename_i hb;cases hv;exact ⟨_,by simp [binOp,Op.intDiv,hb],.d (.int (Td _ _))⟩
 case rem=>
  split at hv
  . cases hv
  . rename_i hb;cases hv;exact ⟨_,by simp [binOp,Op.intDiv,hb],.d (.int (AQX ha))⟩
 all_goals (cases hv;exact ⟨_,by simp [binOp,Op.intCmp],.d .bool⟩)
def zR (s:List UInt8):(HC s.toArray).toList=s:=by
 rw [ByteArray.toList_eq]
def p4 (s:List UInt8):(HC s.toArray).size=s.length:=by show s.toArray.size=s.length;simp
def zQ (s t:List UInt8):HC s.toArray++HC t.toArray=HC (s++t).toArray:=by
 apply ByteArray.ext;simp [ByteArray.data_append]
def AOQ {op:BinOp} {t:TypeId} {u:List UInt8} {v:AV} (hv:ABU op s u=some v):
 ∃x,(binOp op t (.string ⟨s.toArray⟩) (.string ⟨u.toArray⟩)).run P w= .ok x w/\VR g v x:=by
 cases op<;>simp only [ABU] at hv<;>try (cases hv;done)
 case add=>
  split at hv
  . rename_i hl;cases hv;refine ⟨.string ⟨(s++u).toArray⟩,?_,.d (.str (by simpa using hl))⟩
    have h2:(s.length:Int)+(u.length:Int)<=9223372036854775807:=by
     simp only [maxLen] at hl;omega
    simp [binOp,Op.stringOp,p4,zQ,h2]
  . cases hv
 all_goals (cases hv;exact ⟨_,by simp only [binOp,Op.stringOp,zR];rfl,.d .bool⟩)
def ALL {op:BinOp} {t:TypeId} (y z:Operand) {v:AV} (hp:SV g lam p pvl) (hq:SV g lam q qvl) (hv:ALK op p q=some v):
 ∃x,((do eqGuard op t y z pvl qvl;binOp op t pvl qvl:Sem Value)).run P w= .ok x w/\SV g lam v x:=by
 unfold ALK at hv;split at hv
 . rename_i k a k' b;split at hv
   . rename_i hk;subst hk;cases hp with|d hp=>cases hq with|d hq=>cases hp with|int ha=>cases hq with|int hb=>
     obtain ⟨x,Z,hr⟩:=AMW (P:=P) (w:=w) (g:=g) (t:=t) ha hv;exact ⟨x,by simp only [Sem.run_bind,oV,Result.andThen_ok];exact Z,SV.FT hr⟩
   . cases hv
 . cases hp with|d hp=>cases hq with|d hq=>cases hp with|str ha=>cases hq with|str hb=>
   obtain ⟨x,Z,hr⟩:=AOQ (P:=P) (w:=w) (g:=g) (t:=t) hv;exact ⟨x,by simp only [Sem.run_bind,oW,Result.andThen_ok];exact Z,SV.FT hr⟩
 . cases hv
def run_equalIn_bool (d:Nat) {t:TypeId} (ht:P.underlying t=some .bool) (a b:Bool):(Op.equalIn (d+1) t (.bool a) (.bool b)).run P w= .ok (a==b) w:=by
 simp [Op.equalIn,B4 ht]
def run_equal_bool {t:TypeId} (ht:P.underlying t=some .bool) (a b:Bool):(Op.equal t (.bool a) (.bool b)).run P w= .ok (a==b) w:=
 run_equalIn_bool 9999 ht a b
def AF4 {op:BinOp} {t:TypeId} (ht:P.underlying t=some .bool) (y z:Operand) {v:AV} (hp:SV g lam p pvl) (hq:SV g lam q qvl) (hv:xJ op p q=some v):
 ∃x,((do eqGuard op t y z pvl qvl;binOp op t pvl qvl:Sem Value)).run P w= .ok x w/\SV g lam v x:=by
 unfold xJ at hv;split at hv
 . cases hv;cases hp with|d hp=>cases hq with|d hq=>cases hp;cases hq;exact ⟨_,by simp only [Sem.run_bind,UL,Result.andThen_ok];simp [binOp,run_equal_bool ht],.d .bool⟩
 . cases hv;cases hp with|d hp=>cases hq with|d hq=>cases hp;cases hq;exact ⟨_,by simp only [Sem.run_bind,UL,Result.andThen_ok];simp [binOp,run_equal_bool ht],.d .bool⟩
 . cases hv
def ATB {op:UnOp} {v:AV} (hp:SV g lam p pvl) (hv:unA op p=some v):∃x,(Op.unary op pvl).run P w= .ok x w/\SV g lam v x:=by
 unfold unA at hv;split at hv
 . cases hv;cases hp with|d hp=>cases hp;exact ⟨_,by simp [Op.unary],.d .bool⟩
 . cases hv;cases hp with|d hp=>cases hp;exact ⟨_,by simp [Op.unary,Op.intArith],.d (.int (Td _ _))⟩
 . cases hv
def AGV {s t:TypeId} {k j:IntKind} (hs:P.underlying s=some (.int j)) (ht:P.underlying t=some (.int k)) {v:AV} (hp:SV g lam p pvl) (hv:xS k p=some v):
 ∃x,(convert s t pvl).run P w= .ok x w/\SV g lam v x:=by
 unfold xS at hv;split at hv
 . cases hv;cases hp with|d hp=>cases hp;exact ⟨_,by simp [convert,B4 hs,B4 ht,Conv.intToInt],.d (.int (Td _ _))⟩
 . cases hv
def AL9 {v:AV} {i:Nat} (hp:SV g lam p pvl) (hv:AL8 p i=some v):∃x,(Instr.extract pvl i).run P w= .ok x w/\VR g v x:=by
 unfold AL8 at hv;split at hv
 . simp only [AB] at hv;obtain ⟨v0,hv,hnv⟩:=hv;obtain ⟨rfl,_⟩:=sN hnv;cases hp with
   |@tup cs vs hl h=>
    have hlt:=(AE.1 hv).1;have hv':vs[i]?=some (vs[i]'(by omega)):=by simp
    exact ⟨_,by simp [Instr.extract,hv'],h i _ _ hv hv'⟩
 . cases hv
def fS {b:Bool} {v:AV} (ts:Array TypeId) (ty:TypeId) (hp:SV g lam p pvl) (hq:SV g lam q qvl) (hv:mmA b p q=some v):
 ∃x,(if b then Builtin.max_ ts ty #[pvl,qvl] else Builtin.min_ ts ty #[pvl,qvl]).run P w= .ok x w/\SV g lam v x:=by
 unfold mmA at hv;split at hv
 . split at hv
   . rename_i hk;subst hk;cases hv;cases hp with|d hp=>cases hq with|d hq=>cases hp with|int ha=>cases hq with|int hb=>
     cases b
     . refine ⟨_,by simp [Builtin.min_,Builtin.min2],.d (.int ?_)⟩;simp only [A1,if_false];split<;>assumption
     . refine ⟨_,by simp [Builtin.max_,Builtin.max2],.d (.int ?_)⟩;simp only [if_true];split<;>assumption
   . cases hv
 . cases hv
variable {P:Program} {base N:Nat} {g:Gh} {Pr:Nat->Prop} {Y:AH} {w0 w w':World} {lam:Nat->Option Nat} {F:Fm} {L:Lm} {a:Act}
def AQO {s f:Nat} {n:Option Nat} (ho:AMA P s f=some off) (hn:AYK P s f=some n) {v:AV} 
 (hp:SV g lam p pvl) (hv:fdA p off n=some v):∃x,(Instr.field s pvl f).run P w= .ok x w/\VR g v x:=by
 unfold AMA at ho;unfold AYK at hn;cases hu:P.underlying s with
 |none=>rw [hu] at ho;cases ho
 |some d=>
  rw [hu] at ho hn;cases d<;>try (cases ho;done)
  rename_i fs;simp only [AB] at ho hn;obtain ⟨fd,hfd,m,hm,hoff⟩:=ho;obtain ⟨fd',hfd',hld⟩:=hn;rw [hfd] at hfd';cases hfd';split at hoff
  . cases hoff
  cases hoff;cases p<;>simp only [fdA] at hv<;>try (cases hv;done)
  rename_i cs;cases hp with
  |@agg _ vs hl hc hr=>
   have hvs:VRs g cs vs:=VRs.So _ _ hl hr;cases n with
   |none=>
    simp only [rdC,AB] at hv;obtain ⟨v0,hv,hcv⟩:=hv;obtain ⟨rfl,_⟩:=bY hcv;obtain ⟨x,Z,hvr⟩:=hvs.at fd.offset _ hv;exact ⟨x,by simp [Instr.field,B4 hu,hfd,asAgg,part,tO hld,Z],hvr⟩
   |some n=>
    simp only [rdC] at hv;split at hv
    . rename_i hle;cases hv;obtain ⟨h1,h2⟩:=tP (w:=w) hld;have hrr:=(hvs.drop fd.offset).take n;refine ⟨.agg ((vs.drop fd.offset).take n).toArray,?_,.agg (by simp [hl]) (fun c hcm=>hc c (Hw (CZ hcm))) (fun i c u hc hu=>hrr.idx i c u hc hu)⟩
      have he:vs.toArray.extract fd.offset (fd.offset+n)=((vs.drop fd.offset).take n).toArray:=by
       apply Array.ext';simp [List.drop_take]
      simp [Instr.field,B4 hu,hfd,asAgg,part,h1,Ew h2]
    . cases hv
inductive SVo (g:Gh) (lam:Nat->Option Nat):Option AV->Option Value->Prop
 |none:SVo g lam none none
 |some {x:AV} {v:Value} (h:SV g lam x v):SVo g lam (some x) (some v)
def UW {y:Option Operand} {x:Option X} (Z:xoo y=some x) (h:Bh base g lam Pr N F L Y a w0 w):SVo g lam (x.map (xv F)) (y.map a.eval):=by
 cases y with
 |none=>simp only [xoo,AM] at Z;subst Z;exact .none
 |some y=>
  simp only [xoo,AK] at Z;obtain ⟨z,hz,rfl⟩:=Z;exact .some (Ah hz h)
def IK (h:Zu x=some n) (hs:SV g lam x v):∃k,v= .int k n:=by
 unfold Zu at h;split at h
 . split at h
   . rename_i h0;cases h;cases hs with|d hd=>cases hd;exact ⟨_,by rw [Int.toNat_of_nonneg h0]⟩
   . cases h
 . cases h
def Ix {y:Nat} {k:IntKind} (h:n<=y) (c:BoundsCode):(Instr.sliceBound (.int k n) y c).run P w= .ok n w:=by
 have h1:(0:Int)<=(n:Int)/\(n:Int)<=(y:Int):=by omega
 simp [Instr.sliceBound,asIntOf,h1]
def xK {l:Nat} (isS:Bool) (hlo:SVo g lam lo lov) (hhi:SVo g lam hi hiv) (hn:n<=cap) (hb:mV n lo hi=some (l,h)):
 (l<=h/\h<=n)/\(Instr.sliceBounds isS n cap lov hiv none).run P w= .ok (l,h,cap) w/\(∀k,hiv.isSome=true->(Instr.sliceBounds isS n cap lov hiv (some (.int k (h:Int)))).run P w= .ok (l,h,h) w):=by
 unfold mV at hb;simp only [AB] at hb;obtain ⟨l',hl',h',hh',hb⟩:=hb;split at hb
 case isFalse=>cases hb
 rename_i hle;cases hb;refine ⟨hle,?_⟩;unfold Instr.sliceBounds;cases hhi with
 |none=>
  simp only [AM] at hh';subst hh';cases hlo with
  |none=>simp only [AM] at hl';subst hl';simp
  |some hs=>
   obtain ⟨k,rfl⟩:=IK hl' hs;simp [Ix hle.1]
 |some hs2=>
  obtain ⟨k2,rfl⟩:=IK hh' hs2;cases hlo with
  |none=>simp only [AM] at hl';subst hl';simp [Ix (Af hle.2 hn),Ix (AS h)]
  |some hs=>
   obtain ⟨k,rfl⟩:=IK hl' hs;simp [Ix hle.1,Ix (Af hle.2 hn),Ix (AS h)]
def uW (s:List UInt8) (l h:Nat):(HC s.toArray).extract l h=⟨((s.take h).drop l).toArray⟩:=by
 apply ByteArray.ext;simp [ByteArray.data_extract];rw [List.drop_take]
def AOO {t:TypeId} (ht:P.underlying t=some .string) {v:AV} (hp:SV g lam p pvl) (hlo:SVo g lam lo lov) (hhi:SVo g lam hi hiv)
 (hv:Yl p lo hi=some v):∃x,(Instr.sliceAt t pvl lov hiv none).run P w= .ok x w/\VR g v x:=by
 unfold Yl at hv;split at hv
 . rename_i s;simp only [AK] at hv;obtain ⟨⟨l,h⟩,hb,rfl⟩:=hv;cases hp with|d hp=>cases hp with|str hl=>
   obtain ⟨hle,hrun,_⟩:=xK (P:=P) (w:=w) (n:=s.length) (cap:=s.length) false hlo hhi (AS _) hb;refine ⟨.string ⟨((s.take h).drop l).toArray⟩,?_,.d (.str (by simp;omega))⟩;simp [Instr.sliceAt,Instr.slice,B4 ht,p4,hrun,uW]
 . cases hv
def AWB (rows:List (List DV)) (l h:Nat) (hh:h<=rows.length):((rows.take h).drop l).length=h - l:=by simp;omega
def RD.sub {rows:List (List DV)} {size l m:Nat} {ad:Option Addr} {len:Nat} (hs:∀r∈rows,r.length=size) (hrd:RD im (.sl rows) (.slice ad len cap)) (hlh:l<=h) (hh:h<=rows.length)
 (hm1:h<=m) (hm2:m<=cap):RD im (.sl ((rows.take h).drop l)) (.slice (if m=l then ad else ad.map (·.add (l * size))) (h - l) (m - l)):=by
 cases hrd with
 |nil hmx hn=>
  have:h=0:=by simpa using hh
  subst this;have:l=0:=by omega
  subst this;simp only [C0,List.drop_nil,Nat.sub_zero,Nb];refine .nil (by omega) (fun e=>?_);split at e
  . assumption
  . cases ad with
    |none=>have:=hn rfl;omega
    |some x=>simp at e
 |@sl _ b off _ size' f hc hmx hs' hi hr=>
  by_cases h0:h=l
  . subst h0;have e:(rows.take h).drop h=[]:=List.drop_eq_nil_of_le (by simp;omega);rw [e,Nat.sub_self];refine .nil (by omega) (fun e=>?_);split at e<;>simp at e
  . have hne:m≠l:=by omega
    have hlen:=AWB rows l h hh
    have hsz:size'=size:=by
     have h1:0 < rows.length:=by omega
     rw [<- hs' rows[0] (E5 h1),hs rows[0] (E5 h1)]
    subst hsz;rw [if_neg hne];simp only [Ac,Addr.add_lit];rw [<- hlen];refine .sl (size:=size') (f:=fun i j=>f (l+i) j) (by omega) (by omega) (fun r hr'=>hs r (CZ (Hw hr'))) (fun i j hi' hj=>?_) (fun i r j x hi' hj=>?_)
    . have:=hi (l+i) j (by omega) hj;rw [Bs] at this;rw [show off+l * size'+i * size'+j=off+(l * size'+i * size')+j by omega];exact this
    . rw [BN,B2] at hi';split at hi'
      . exact hr (l+i) r j x hi' hj
      . cases hi'
def AV.AIW {rows:List (List DV)} (hp:SV g lam p v) (hr:p.rows=some rows):RD g.im (.sl rows) v:=by
 cases p<;>simp only [AV.rows] at hr<;>try (cases hr;done)
 . rename_i x;cases x<;>simp only [AM] at hr<;>try (cases hr;done)
   subst hr;cases hp with|d h=>exact h
 . cases hr;cases hp;exact .nil (FO _) (fun _=>rfl)
 . cases hr;cases hp with|own h _ _=>exact h
 . cases hr;cases hp with|clip h=>exact h
def RD.uniform {rows:List (List DV)} (h:RD im (.sl rows) v):∃size,∀r∈rows,r.length=size:=by
 cases h with
 |nil=>exact ⟨0,by simp⟩
 |sl _ _ hs _ _=>exact ⟨_,hs⟩
def RD.AbK {rows:List (List DV)} {l m size:Nat} {ad:Option Addr} {len:Nat} (hs:l=0\/∀r∈rows,r.length=size) (hrd:RD im (.sl rows) (.slice ad len cap)) (hlh:l<=h) (hh:h<=rows.length)
 (hm1:h<=m) (hm2:m<=cap):RD im (.sl ((rows.take h).drop l)) (.slice (if m=l then ad else ad.map (·.add (l * size))) (h - l) (m - l)):=by
 rcases hs with h0|hs
 . subst h0;obtain ⟨size',hu⟩:=hrd.uniform;have:=RD.sub (size:=size') hu hrd hlh hh hm1 hm2;simpa using this
 . exact RD.sub hs hrd hlh hh hm1 hm2
def AON {t:TypeId} (ht:P.underlying t=some (.slice e)) (hsz:szT P e=some sz) {mx:Option AV} {mxv:Option Value} {v:AV} (hp:SV g lam p pvl)
 (hlo:SVo g lam lo lov) (hhi:SVo g lam hi hiv) (hmx:SVo g lam mx mxv) (hv:AOM p lo hi mx sz=some v):
 ∃x,(Instr.sliceAt t pvl lov hiv mxv).run P w= .ok x w/\VR g v x:=by
 unfold AOM at hv;split at hv
 . rename_i h0;split at hv
   . rename_i hn;cases hv;cases hlo;cases hmx;cases hhi with
     |some hh=>
      obtain ⟨kk,rfl⟩:=IK hn hh;cases hp;refine ⟨.slice none 0 0,?_,.Ad⟩;have hb0:(Instr.sliceBound (.int kk 0) 0 .sliceAcap).run P w= .ok 0 w:=Ix (n:=0) (AS 0) _
      have hb1:(Instr.sliceBounds true 0 0 none (some (.int kk 0)) none).run P w= .ok (0,0,0) w:=by
       simp [Instr.sliceBounds,hb0]
      simp [Instr.sliceAt,Instr.slice,B4 ht,hb1,Ew hsz]
   . cases hv
 . rename_i i n s e1 l;simp only [AB] at hv;obtain ⟨l',hl',hv⟩:=hv;split at hv
   case isFalse=>cases hv
   rename_i hcond;obtain ⟨hln,rfl⟩:=hcond;cases hv;cases hhi;cases hmx;cases hlo with
   |some hh=>
    obtain ⟨kk,rfl⟩:=IK hl' hh;cases hp with
    |@ms _ _ _ _ b cap hm hr hn hmx=>
     have hb1:(Instr.sliceBounds true n cap (some (.int kk l')) none none).run P w= .ok (l',n,cap) w:=by
      have h1:=Ix (P:=P) (w:=w) (k:=kk) hln .sliceB;simp [Instr.sliceBounds,h1]
     by_cases hc:cap=l'
     . refine ⟨.slice (some ⟨b,0,none⟩) (n - l') (cap - l'),?_,.mv hm hr (by omega) hmx (fun h=>by omega)⟩;subst hc;simp [Instr.sliceAt,Instr.slice,B4 ht,hb1,Ew hsz]
     . refine ⟨.slice (some ⟨b,l' * s,none⟩) (n - l') (cap - l'),?_,.mv hm hr (by omega) hmx (fun _=>rfl)⟩;simp [Instr.sliceAt,Instr.slice,B4 ht,hb1,Ew hsz,hc,Addr.add_lit]
 . rename_i i n s e1 h;simp only [AB] at hv;obtain ⟨h',hh',hv⟩:=hv;split at hv
   case isFalse=>cases hv
   rename_i hcond;cases hv;cases hlo;cases hmx;cases hhi with
   |some hh=>
    obtain ⟨kk,rfl⟩:=IK hh' hh;cases hp with
    |@ms _ _ _ _ b cap hm hr hn hmx=>
     have hb1:(Instr.sliceBounds true n cap none (some (.int kk h')) none).run P w= .ok (0,h',cap) w:=by
      simp [Instr.sliceBounds,Ix (Af hcond hn)]
     exact ⟨.slice (some ⟨b,0,none⟩) h' cap,by simp [Instr.sliceAt,Instr.slice,B4 ht,hb1,Ew hsz,Addr.add_lit],.ms hm hr (by omega) hmx⟩
 simp only [AB] at hv;obtain ⟨rows,hr,hv⟩:=hv;unfold AI5 at hv;split at hv
 case isFalse=>cases hv
 rename_i hchk;simp only [AB] at hv;obtain ⟨⟨l,h⟩,hb,hv⟩:=hv;have hrd:=AV.AIW hp hr;obtain ⟨ad,cap,rfl,hlm⟩:=hrd.OE
 have hcap:rows.length<=cap:=by
  cases hrd with
  |nil=>simp
  |sl hc _ _ _ _=>exact hc
 obtain ⟨hle,hrun,hrun3⟩:=xK (P:=P) (w:=w) (n:=rows.length) (cap:=cap) true hlo hhi hcap hb
 have hl0:l=0\/∀r∈rows,r.length=sz:=by
  simp only [Cb] at hchk;rcases hchk with h1|h1
  . left;cases hlo with
    |none=>
     unfold mV at hb;simp only [AB,AM] at hb;obtain ⟨l',hl',h',_,hb⟩:=hb;split at hb
     . cases hb;exact hl'.symm
     . cases hb
    |some _=>cases h1
  . right;intro r hr;simp only [ABR,Aj,beq_iff_eq] at h1;exact h1 r hr
 cases hmx with
 |none=>
  have hv:some (AV.d (.sl ((rows.take h).drop l)))=some v:=by cases hi<;>exact hv
  cases hv;exact ⟨_,by simp [Instr.sliceAt,Instr.slice,B4 ht,hrun,Ew hsz],.d (RD.AbK hl0 hrd hle.1 hle.2 (Af hle.2 hcap) (AS _))⟩
 |some hms=>
  cases hhi with
  |none=>cases hv
  |some hhs=>
   simp only at hv;split at hv
   . rename_i hm;cases hv;obtain ⟨k,rfl⟩:=IK hm hms;have hb2:=hrun3 k rfl;exact ⟨_,by simp [Instr.sliceAt,Instr.slice,B4 ht,hb2,Ew hsz],.clip (RD.AbK hl0 hrd hle.1 hle.2 (AS _) (Af hle.2 hcap))⟩
   . cases hv
def wY {t:TypeId} (ht:P.underlying t=some (.pointer e)) (q:Option Addr):(Op.equal t (.pointer q) (.pointer none)).run P w= .ok q.isNone w:=by
 have:∀d,(Op.equalIn (d+1) t (.pointer q) (.pointer none)).run P w= .ok q.isNone w:=fun d=>by
  cases q<;>simp [Op.equalIn,B4 ht]
 exact this 9999
def AIM {op:BinOp} {ne:Bool} {t:TypeId} (ht:P.underlying t=some (.pointer e)) (hop:op=if ne then .neq else .eql) (y z:Operand) {v:AV} (hp:SV g lam p pvl) (hv:yS ne p=some v):
 ∃x,((do eqGuard op t y z pvl (.pointer none);binOp op t pvl (.pointer none):Sem Value)).run P w= .ok x w/\SV g lam v x:=by
 have key:∀(q:Option Addr),pvl= .pointer q->((do eqGuard op t y z pvl (.pointer none);binOp op t pvl (.pointer none):Sem Value)).run P w= .ok (.bool (if ne then !q.isNone else q.isNone)) w:=by
  intro q hq;subst hq hop;have h1:=wY (P:=P) (w:=w) ht q;have h2:(eqGuard (if ne then .neq else .eql) t y z (.pointer q) (.pointer none)).run P w= .ok () w:=by cases ne<;>simp [eqGuard]
  simp only [Sem.run_bind,h2,Result.andThen_ok];cases ne<;>simp [binOp,h1]
 cases p<;>simp only [yS] at hv<;>try (cases hv;done)
 . rename_i x;cases x<;>simp only [AM] at hv<;>try (cases hv;done)
   . subst hv;cases hp with|d hp=>cases hp;exact ⟨_,key _ rfl,by cases ne<;>exact .d .bool⟩
   . subst hv;cases hp with|d hp=>cases hp;exact ⟨_,key _ rfl,by cases ne<;>exact .d .bool⟩
 . cases hv;obtain ⟨b,hb,rfl⟩:=hp;exact ⟨_,key _ rfl,by cases ne<;>exact .d .bool⟩
 . cases hv;cases hp;exact ⟨_,key _ rfl,by cases ne<;>exact .d .bool⟩
 . cases hv;cases hp;exact ⟨_,key _ rfl,by cases ne<;>exact .d .bool⟩
 . cases hv;cases hp;exact ⟨_,key _ rfl,by cases ne<;>exact .d .bool⟩
def aS (d:Nat):∀(fs:List Field) (o:Nat) (cs ds:List AV) (xs ys:List Value) (r:Bool),
 (fs.zipIdx o).all (fun (f,i)=>f.offset==i&&f.name != "_"&&AHY P f.type)=true->
 cs.length=fs.length->Nv cs ds=some r->VRs g cs (xs.drop o)->VRs g ds (ys.drop o)->(Op.eqFields (d+1) xs.toArray ys.toArray fs).run P w= .ok r w
 |[],o,cs,ds,xs,ys,r,_,hl,hi,_,_=>by
  have:cs=[]:=An (by simpa using hl);subst this;cases ds with
  |nil=>simp only [Nv,AM] at hi;subst hi;simp [Op.eqFields]
  |cons _ _=>cases hi
 |f::fs,o,cs,ds,xs,ys,r,hf,hl,hi,Z,hy=>by
  simp only [List.zipIdx_cons,BO,AO,beq_iff_eq,bne_iff_ne,ne_eq] at hf;obtain ⟨⟨⟨ho,hn⟩,hint⟩,hrest⟩:=hf;cases cs with
  |nil=>simp at hl
  |cons c cs=>
   cases ds with
   |nil=>cases c<;>simp [Nv] at hi
   |cons c' ds=>
    have hc:∃k a b,c= .d (.int k a)/\c'= .d (.int k b)/\∃r',Nv cs ds=some r'/\r=(a==b&&r'):=by
     cases c<;>try (simp [Nv] at hi;done)
     rename_i x;cases x<;>try (simp [Nv] at hi;done)
     rename_i k a;cases c'<;>try (simp [Nv] at hi;done)
     rename_i y;cases y<;>try (simp [Nv] at hi;done)
     rename_i k' b;simp only [Nv] at hi;split at hi
     . rename_i hk;subst hk;simp only [AK] at hi;obtain ⟨r',hr',rfl⟩:=hi;exact ⟨k,a,b,rfl,rfl,r',hr',rfl⟩
     . cases hi
    obtain ⟨k,a,b,rfl,rfl,r',hr',rfl⟩:=hc;generalize hxd:xs.drop o=xd at Z;generalize hyd:ys.drop o=yd at hy;cases Z with
    |@cons _ vx _ vxs hvx hxs=>
     cases hy with
     |@cons _ vy _ vys hvy hys=>
      cases hvx with|d hvx=>cases hvy with|d hvy=>cases hvx with|int ha1=>cases hvy with|int hb1=>
      have ex:xs.toArray[o]?=some (.int k a):=by
       have:(xs.drop o)[0]?=some (.int k a):=by rw [hxd];rfl
       simpa using this
      have ey:ys.toArray[o]?=some (.int k b):=by
       have:(ys.drop o)[0]?=some (.int k b):=by rw [hyd];rfl
       simpa using this
      have hu:∃k',P.underlying f.type=some (.int k'):=by
       unfold AHY at hint;cases hud:P.underlying f.type with
       |none=>rw [hud] at hint;cases hint
       |some dd=>rw [hud] at hint;cases dd<;>first|exact ⟨_,rfl⟩|cases hint
      obtain ⟨k',hu⟩:=hu;have hagg:(isAgg f.type).run P w= .ok false w:=by simp [isAgg,B4 hu]
      have ih:=aS d fs (o+1) cs ds xs ys r' hrest (by simpa using hl) hr' (by rw [<- Es,hxd];simpa using hxs) (by rw [<- Es,hyd];simpa using hys);simp only [Op.eqFields,hn,ne_eq,not_false_eq_true,if_true,part,Sem.run_bind,hagg,Result.andThen_ok,A1,if_false,ho,ex,ey,Sem.run_pure,run_equalIn_int w d f.type k k' a b hu];cases hab:(a==b)
      . simp
      . simpa using ih
def AI9 {op:BinOp} {ne:Bool} {t:TypeId} {fs:Array Field} (hu:P.underlying t=some (.struct fs)) (his:Tp P t=true) (hop:op=if ne then .neq else .eql) (y z:Operand) {v:AV} 
 (hp:SV g lam p pvl) (hq:SV g lam q qvl) (hv:y6 ne fs.size p q=some v):
 ∃x,((do eqGuard op t y z pvl qvl;binOp op t pvl qvl:Sem Value)).run P w= .ok x w/\SV g lam v x:=by
 unfold y6 at hv;split at hv
 case h_2=>cases hv
 rename_i l m;split at hv
 case isFalse=>cases hv
 rename_i hlen;simp only [AK] at hv;obtain ⟨r,hr,rfl⟩:=hv;unfold Tp at his;rw [hu] at his;simp only [AO,beq_iff_eq,Br] at his;obtain ⟨⟨⟨hall,hsz⟩,hst⟩,hgd⟩:=his;cases hp with
 |@agg _ xs hl hc Z=>
  cases hq with
  |@agg _ ys hl' hc' hy=>
   have hxs:VRs g l xs:=VRs.So _ _ hl Z;have hys:VRs g m ys:=VRs.So _ _ hl' hy;have hfo:P.fieldsOf t=fs:=by unfold Program.fieldsOf;rw [hu]
   have hrun:(Op.equalIn 10000 t (.agg xs.toArray) (.agg ys.toArray)).run P w= .ok r w:=by
    have h1:=run_equalIn_struct (P:=P) w 9999 t xs.toArray ys.toArray (by rw [hfo];exact hu) hst;rw [h1,hfo];exact aS 9998 fs.toList 0 l m xs ys r hall (by simpa using hlen) hr (by simpa using hxs) (by simpa using hys)
   have hg:(eqGuard op t y z (.agg xs.toArray) (.agg ys.toArray)).run P w= .ok () w:=run_eqGuard_agg w op t y z _ _ hgd;refine ⟨.bool (if ne then !r else r),?_,SV.FT (.d .bool)⟩;simp only [Sem.run_bind,hg,Result.andThen_ok];subst hop;have he:(Op.equal t (.agg xs.toArray) (.agg ys.toArray)).run P w= .ok r w:=hrun;cases ne<;>simp [binOp,he]
variable {P:Program} {base N:Nat} {g g':Gh} {Pr:Nat->Prop} {Y σ':AH} {w0 w w':World} {lam:Nat->Option Nat} {F:Fm} {L:Lm} {a:Act}
def yA (off:Nat):∀(vs:List Value) (k:Nat) (cells:Array Value),off+k+vs.length<=cells.size->
 (vs.zipIdx k).foldl (fun cs (x:Value×Nat)=>cs.setIfInBounds (off+x.2) x.1) cells=(cells.toList.take (off+k)++vs++cells.toList.drop (off+k+vs.length)).toArray
 |[],k,cells,h=>by simp
 |v::vs,k,cells,h=>by
  simp only [List.zipIdx_cons,Au];have hl:off+k+(vs.length+1)<=cells.size:=by simpa using h
  rw [yA off vs (k+1) _ (by simp;omega)];have:=list_seg_step cells.toList (off+k) v vs (by simpa using hl);simp only [Array.toList_setIfInBounds,A0];rw [show off+(k+1)=off+k+1 by omega,this]
def AMB (off:Nat) (v:Value) (cells:Array Value) (h:off+v.cells.size<=cells.size):
 v.cells.zipIdx.foldl (fun cs (c,j)=>cs.setIfInBounds (off+j) c) cells=(cells.toList.take off++v.cells.toList++cells.toList.drop (off+v.cells.size)).toArray:=by
 have:=yA off v.cells.toList 0 cells (by simpa using h);simp only [CF,Ir] at this;rw [<- this,<- Array.foldl_toList];simp
def Gm {x y:List AV}:Ax (x++y)=(Ax x&&Ax y):=by simp [Ax]
def Ob {x:List AV} (n:Nat) (h:Ax x=true):Ax (x.take n)=true:=by
 simp only [Ax,Aj] at *;exact fun c hc=>h c (CZ hc)
def Uj {x:List AV} (n:Nat) (h:Ax x=true):Ax (x.drop n)=true:=by
 simp only [Ax,Aj] at *;exact fun c hc=>h c (Hw hc)
def Uk (h:Ax x.cells=true):x.BS=true:=by cases x<;>first|rfl|(simp [AV.cells,Ax,AV.B1] at h)
def Up (h:Bh base g lam Pr N F L Y a w0 w) (pl:Nat->Option (Nat×Nat)):∀(ps:List (Nat×Operand)) (cps:List (Nat×Nat×X)) (z:List AV) (zc:Array Value) (cs:List AV),
 VS pl ps=some cps->VRs g z zc.toList->Ax z=true->Jz z F cps=some cs->
 ∃cells,Instr.fill pl zc (ps.map fun p=>(p.1,a.eval p.2))=some cells/\VRs g cs cells.toList/\Ax cs=true
 |[],cps,z,zc,cs,hp,hz,hok,hf=>by
  simp only [VS,AM] at hp;subst hp;simp only [Jz,AM] at hf;subst hf;exact ⟨zc,rfl,hz,hok⟩
 |(i,y)::ps,cps,z,zc,cs,hp,hz,hok,hf=>by
  simp only [VS,AT,AB] at hp;obtain ⟨⟨off,n⟩,hpl,x,Z,cps',hcps,hc⟩:=hp;cases hc;simp only [Jz] at hf;split at hf
  . rename_i hcond;simp only [AO,beq_iff_eq,decide_eq_true_eq] at hcond;obtain ⟨⟨hck,hln⟩,hle⟩:=hcond;have hsv:=(Ah Z h).vr (Uk hck);have hcells:=hsv.cells hck;have hsize:(a.eval y).cells.size=n:=by have:=hcells.length;simpa [hln] using this
    have hzl:=hz.length;have hfit:off+(a.eval y).cells.size<=zc.size:=by simp at hzl;omega
    have hz':VRs g (z.take off++(xv F x).cells++z.drop (off+n)) ((zc.toList.take off++(a.eval y).cells.toList++zc.toList.drop (off+(a.eval y).cells.size)).toArray).toList:=by
     simp only [hsize];exact ((hz.take off).append hcells).append (hz.drop (off+n))
    have hok':Ax (z.take off++(xv F x).cells++z.drop (off+n))=true:=by
     simp [Gm,Ob _ hok,Uj _ hok,hck]
    obtain ⟨cells,hfill,hr,hck'⟩:=Up h pl ps cps' _ _ cs hcps hz' hok' hf;refine ⟨cells,?_,hr,hck'⟩;have hno:¬(off+n>zc.size):=by omega
    simp only [AF,Instr.fill,hpl];rw [if_neg (by simp [hsize];omega),AMB off (a.eval y) zc hfit];exact hfill
  . cases hf
def iX:∀(l:List Value) (cs:List AV),cvs l=some cs->∀g:Gh,VRs g cs l/\Ax cs=true
 |[],cs,h,g=>by simp only [cvs,AM] at h;subst h;exact ⟨.nil,rfl⟩
 |v::l,cs,h,g=>by
  simp only [cvs,AT,AB] at h;obtain ⟨c,hc,cs',hcs,he⟩:=h;cases he;obtain ⟨h1,h2⟩:=iX l cs' hcs g;refine ⟨.cons (AC3 hc g) h1,?_⟩;simp only [Ax,BO,AO];exact ⟨AT6 hc,h2⟩
def KU {t:TypeId} {z:List AV} (h:WK P t=some z):∃i zv,P.info? t=some i/\i.zero=some zv/\Ax z=true/\∀g:Gh,VRs g z zv.cells.toList:=by
 simp only [WK,AT,AB] at h;obtain ⟨i,hi,zv,hz,hc⟩:=h;exact ⟨i,zv,hi,hz,(iX _ _ hc ⟨fun _ _=>none,fun _=>none,fun _=>none,fun _=>none⟩).2,fun g=>(iX _ _ hc g).1⟩
def ALM {t:TypeId} {z:List AV} {pl:Nat->Option (Nat×Nat)} (hz:WK P t=some z) (hpl:places P t=some pl)
 (hp:VS pl ps.toList=some cps) (h:Bh base g lam Pr N F L Y a w0 w) (hf:Jz z F cps=some cs):
 ∃x,(Instr.build t (ps.map fun (i,x)=>(i,a.eval x))).run P w= .ok x w/\VR g (.agg cs) x:=by
 obtain ⟨i,zv,hi,hzv,hok,hvr⟩:=KU hz;obtain ⟨cells,hfill,hr,hck⟩:=Up h pl ps.toList cps z zv.cells cs hp (hvr g) hok hf
 have hb:P.built t (ps.map fun (i,x)=>(i,a.eval x)).toList=some cells:=by
  unfold Program.built places at *;have hm:(ps.map fun (i,x)=>(i,a.eval x)).toList=ps.toList.map fun p=>(p.1,a.eval p.2):=by simp
  rw [hm];cases hu:P.underlying t with
  |none=>rw [hu] at hpl;cases hpl
  |some d=>
   rw [hu] at hpl;cases d<;>try (cases hpl;done)
   case array n e=>
    simp only [AK] at hpl;obtain ⟨ie,hie,rfl⟩:=hpl;simp only [hi,hzv,hie];exact hfill
   case struct fs=>
    simp only [AK] at hpl;obtain ⟨pp,hpp,rfl⟩:=hpl;simp only [hi,hzv,hpp];exact hfill
 refine ⟨_,run_build w t _ cells hb,?_⟩;have:cells=cells.toList.toArray:=by simp
 rw [this];simp only [Ax,Aj] at hck;exact .agg hr.length hck hr.idx
def Bh.step (h:Bh base g lam Pr N F L Y a w0 w) (hg:g.le g') (hloc:∀k b,lam k=some b->w'.heap[b]?=w.heap[b]?)
 (hrel:Rel base g' (fun b=>Pr b\/∃k,lam k=some b) σ' w0 w'):Bh base g' lam Pr N F L σ' a w0 w':=by
 refine ⟨fun s=>(h.tm s).mono hg,h.sz,h.df,fun k cs hk=>?_,h.inj,h.npr,hrel⟩;obtain ⟨hok,b,vs,ty,hb,hlow,hheap,hr⟩:=h.loc k cs hk;exact ⟨hok,b,vs,ty,hb,hlow,by rw [hloc k b hb];exact hheap,hr.mono hg⟩
def Bh.Kx (h:Bh base g lam Pr N F L Y a w0 w) {k:Nat} (hk:lam k=some b):b < w.heap.size:=(h.rel.pr b (.inr ⟨k,hk⟩)).1
def XR {o:Obj} (hb:base<=w.heap.size):Below base w (w.alloc o):=(Below.refl base w).alloc hb o
def Rel.alloc (h:Rel base g Pr Y w0 w) (o:Obj):Rel base g Pr Y w0 (w.alloc o):=
 h.grow (by simp) (fun b hb _=>heap_alloc_old w o b hb) (XR h.bs) (fun b hp=>⟨by have:=(h.pr b hp).1;simp;omega,.inl hp⟩)
def Fu (size:Nat):∀(n:Nat) (l:List DV),(chunk size n l).length=n
 |0,_=>rfl
 |n+1,l=>by simp [chunk,Fu size n]
def ZA (size:Nat):∀(n:Nat) (l:List DV) (i:Nat),i < n->(chunk size n l)[i]?=some ((l.drop (i * size)).take size)
 |0,_,i,h=>by omega
 |n+1,l,0,_=>by simp [chunk]
 |n+1,l,i+1,h=>by
  simp only [chunk,RG];rw [ZA size n (l.drop size) i (by omega),Es,Bs,Nat.one_mul,Nat.add_comm]
def ZG:∀(cs:List AV) (l:List DV),dvs cs=some l->∀vs,VRs g cs vs->l.length=cs.length/\∀(j:Nat) (x:DV),l[j]?=some x->∃v,vs[j]?=some v/\RD g.im x v
 |[],l,h,vs,hr=>by simp only [dvs,AM] at h;subst h;exact ⟨rfl,fun j x Z=>by simp at Z⟩
 |c::cs,l,h,vs,hr=>by
  simp only [dvs,AT,AB] at h;obtain ⟨x,Z,l',hl',he⟩:=h;cases he;cases hr with
  |@cons _ v _ vs' hcv hrs=>
   obtain ⟨h1,h2⟩:=ZG cs l' hl' vs' hrs;refine ⟨by simp [h1],fun j y hy=>?_⟩;cases j with
   |zero=>
    simp at hy;subst hy;refine ⟨v,rfl,?_⟩
    cases c<;>simp only [AV.dv,AM] at Z<;>first
     |(cases Z;done)
     |(subst Z;cases hcv with|d h=>exact h)
     |(subst Z;cases hcv;exact .nil (FO _) (fun _=>rfl))
     |(subst Z;cases hcv with|own h _ _=>exact h)
     |(subst Z;cases hcv with|clip h=>exact h)
     |(subst Z;cases hcv;exact .EO)
   |succ j=>simpa using h2 j y (by simpa using hy)
def RD.fresh {size:Nat} {cells:List Value} (hl:l.length=n * size) (hn:n<=maxLen) (hc:cells.length=n * size)
 (him:∀o v,cells[o]?=some v->im b o=some v) (hr:∀(j:Nat) (x:DV),l[j]?=some x->∃v,cells[j]?=some v/\RD im x v):
 RD im (.sl (chunk size n l)) (.slice (some ⟨b,0,none⟩) n n):=by
 have hgoal:RD im (.sl (chunk size n l)) (.slice (some ⟨b,0,none⟩) (chunk size n l).length n):=by
  refine .sl (size:=size) (f:=fun i j=>cells.getD (i * size+j) (.bool false)) (by rw [Fu];exact AS _) hn ?_ ?_ ?_
  . intro r hrm;obtain ⟨i,hi,rfl⟩:=Bv hrm;rw [Fu] at hi;have:=ZA size n l i hi;rw [Ay (by rw [Fu];exact hi)] at this;rw [Kc this];rw [B5,Df,hl];have:i * size+size<=n * size:=by rw [<- Na];exact Bi _ hi
    omega
  . intro i j hi hj;rw [Fu] at hi;have:i * size+size<=n * size:=by rw [<- Na];exact Bi _ hi
    have hlt:i * size+j < cells.length:=by omega
    rw [BF];refine him _ _ ?_;simp [Ay hlt]
  . intro i r j x hi hj;have hin:i < n:=by have:=(AE.1 hi).1;rwa [Fu] at this
    rw [ZA size n l i hin] at hi;cases hi;rw [B2] at hj;split at hj
    . rw [BN] at hj;obtain ⟨v,hv,hrd⟩:=hr _ _ hj;rw [A2,hv];exact hrd
    . cases hj
 rwa [Fu] at hgoal
def VRs.flatten {z:List AV} {zc:List Value} (h:VRs g z zc):∀n:Nat,VRs g (AG n z).flatten (AG n zc).flatten
 |0=>by simpa using .nil
 |n+1=>by simp only [BV,BW];exact h.append (VRs.flatten h n)
def J2 {z:List AV} (h:Ax z=true):∀n:Nat,Ax (AG n z).flatten=true
 |0=>rfl
 |n+1=>by simp only [BV,BW,Gm,h,J2 h n,XB]
def range_zero (z:Array Value) (size:Nat) (hz:z.size=size) (h0:0 < size):∀n:Nat,((XD (n * size)).map (z[· % z.size]!)).toList=(AG n z.toList).flatten
 |0=>by simp
 |n+1=>by
  have ih:=range_zero z size hz h0 n
  have e1:(AG (n+1) z.toList).flatten=(AG n z.toList).flatten++z.toList:=by
   rw [List.replicate_succ',It];simp
  rw [e1,<- ih];simp only [Array.toList_map,Array.toList_range,Bs,Nat.one_mul,List.range_add,Ao,List.map_map];congr 1;apply List.ext_getElem
  . simp [hz]
  . intro i h1 h2;simp at h1 h2;have:(n * size+i) % z.size=i:=by rw [hz,Nat.add_comm,Nat.add_mul_mod_self_right];exact Nat.mod_eq_of_lt h1
    simp [this,h2]
def ET {α:Type} (l:List α):∀n:Nat,(AG n l).flatten.length=n * l.length
 |0=>by simp
 |n+1=>by simp [BV,ET l n,Bs];omega
def Uo (F:Fm):∀(cps:List (Nat×Nat×X)) (z cs:List AV),Jz z F cps=some cs->cs.length=z.length
 |[],z,cs,h=>by simp only [Jz,AM] at h;subst h;rfl
 |(off,n,x)::cps,z,cs,h=>by
  simp only [Jz] at h;split at h
  . rename_i hc;simp only [AO,beq_iff_eq,decide_eq_true_eq] at hc;rw [Uo F cps _ cs h];simp;omega
  . cases h
def ALN {t:TypeId} {len:Nat} {z:List AV} (he:T3 P t=some e) (hz:WK P e=some z) (hn:szT P e=some n)
 (hzn:z.length=n/\0 < n/\len * n<=4096/\len<=4096) (hp:VS (fun i=>some (i * n,n)) ps.toList=some cps) (h:Bh base g lam Pr N F L Y a w0 w) 
 (hf:Jz (AG len z).flatten F cps=some cs) (hd:dvs cs=some l):
 ∃x g' w',(Instr.buildSlice t len (ps.map fun (i,x)=>(i,a.eval x))).run P w= .ok x w'/\g.le g'/\KP Pr w w'/\VR g' (.d (.sl (chunk n len l))) x/\Bh base g' lam Pr N F L Y a w0 w':=by
 obtain ⟨hzl,h0,hsmall,hlen⟩:=hzn;obtain ⟨i,zv,hi,hzv,hok,hvr⟩:=KU hz
 have hu:P.underlying t=some (.slice e):=by
  unfold T3 at he;split at he
  . rename_i e' hh;cases he;exact hh
  . cases he
 have hzs:zv.cells.size=n:=by have:=(hvr g).length;simp at this;omega
 have hinit:VRs g (AG len z).flatten ((XD (len * n)).map (zv.cells[· % zv.cells.size]!)).toList:=by
  rw [range_zero zv.cells n hzs h0 len];exact (hvr g).flatten len
 obtain ⟨cells,hfill,hr,hck⟩:=Up h _ ps.toList cps _ _ cs hp hinit (J2 hok len) hf
 have hcl:cells.size=len * n:=by
  have h1:=hr.length;have h2:=Uo F cps _ cs hf;have h3:=ET z len;simp at h1;rw [h1,h2,h3,hzl]
 have hrun:(Instr.buildSlice t len (ps.map fun (i,x)=>(i,a.eval x))).run P w= .ok (.slice (some ⟨w.heap.size,0,none⟩) len len) (w.alloc (.cells cells e)):=by
  have hm:(ps.map fun (i,x)=>(i,a.eval x)).toList=ps.toList.map fun p=>(p.1,a.eval p.2):=by simp
  have hno:¬(len * n>2 ^ 24):=Nat.not_lt.2 (Af hsmall (by decide));unfold Instr.buildSlice;simp only [Sem.run_bind,B4 hu,Result.andThen_ok,Ew hn,hm];rw [if_neg hno];by_cases h00:len * n=0
  . have hr0:XD 0=#[]:=rfl;rw [h00,hr0] at hfill;simp only [h00,if_true,pure_bind,hr0,Array.map_empty] at hfill ⊢;simp only [hfill,Sem.run_bind,newRow,run_newObj,Result.andThen_ok,Sem.run_pure,World.alloc_eq]
  . simp only [if_neg h00,Sem.run_bind,zeroValue,typeInfo,run_program,Result.andThen_ok,hi,Sem.run_pure,hzv,hfill,newRow,run_newObj,World.alloc_eq]
 have hrel:=h.rel.settle (n:=len * n) (vs:=cells) (b:=w.heap.size) (AS _) (h.rel.alloc (.cells cells e)) (fun o=>by simp);have hle:=h.rel.ZP w.heap.size (len * n) cells (AS _);refine ⟨_,g.settle w.heap.size (len * n) cells,_,hrun,hle,⟨by simp,fun b hp=>heap_alloc_old w _ b (h.rel.pr b (.inl hp)).1⟩,?_,h.step hle (fun k b hb=>heap_alloc_old w _ b (h.Kx hb)) hrel⟩;obtain ⟨hll,hrd⟩:=ZG cs l hd _ (hr.mono hle);have h1:=hr.length;refine .d (RD.fresh (cells:=cells.toList) (by simp at h1;omega) (by simp only [maxLen];omega) (by simpa using hcl) (fun o v hv=>?_) hrd);have:o < len * n:=by have:=(AE.1 hv).1;simp at this;omega
 simp only [Gh.settle,if_true,if_pos this];simpa using hv
def AF6 {t:TypeId} {x:X} (Z:xo y=some x) (h:Bh base g lam Pr N F L Y a w0 w) (hd:dvs (xv F x).cells=some l):
 ∃z g' w',(Instr.box t (a.eval y)).run P w= .ok z w'/\g.le g'/\KP Pr w w'/\VR g' (.d (.ptr l)) z/\Bh base g' lam Pr N F L Y a w0 w':=by
 have hok:Ax (xv F x).cells=true:=by
  have:∀(cs:List AV) (l:List DV),dvs cs=some l->Ax cs=true:=by
   intro cs
   induction cs with
   |nil=>intro l h;rfl
   |cons c cs ih=>
    intro l h;simp only [dvs,AT,AB] at h;obtain ⟨x,Z,l',hl',_⟩:=h;simp only [Ax,BO,AO];refine ⟨?_,ih l' hl'⟩;cases c<;>first|rfl|(simp [AV.dv] at Z)
  exact this _ _ hd
 have hv:=((Ah Z h).vr (Uk hok)).cells hok;have hrun:(Instr.box t (a.eval y)).run P w= .ok (.pointer (some ⟨w.heap.size,0,none⟩)) (w.alloc (.cells (a.eval y).cells t)):=by simp [Instr.box,newVar,newRow]
 have hrel:=h.rel.settle (n:=(a.eval y).cells.size) (vs:=(a.eval y).cells) (b:=w.heap.size) (AS _) (h.rel.alloc (.cells (a.eval y).cells t)) (fun o=>by simp);have hle:=h.rel.ZP w.heap.size (a.eval y).cells.size (a.eval y).cells (AS _);refine ⟨_,g.settle w.heap.size (a.eval y).cells.size (a.eval y).cells,_,hrun,hle,⟨by simp,fun b hp=>heap_alloc_old w _ b (h.rel.pr b (.inl hp)).1⟩,?_,h.step hle (fun k b hb=>heap_alloc_old w _ b (h.Kx hb)) hrel⟩;obtain ⟨hll,hrd⟩:=ZG _ l hd _ (hv.mono hle);have h1:=hv.length;refine .d (.ptr (f:=fun j=>((a.eval y).cells.toList[j]?).getD Cl) (fun j hj=>?_) (fun j x Z=>?_))
 . have hlt:j < (a.eval y).cells.size:=by simp at h1;omega
   simp [Gh.settle,hlt]
 . obtain ⟨v,hv',hr'⟩:=hrd j x Z;rw [hv'];exact hr'
def UY (h:Bh base g lam Pr N F L Y a w0 w):∀(l:List Operand) (xs:List X),xos l=some xs->((xvs F xs).all AV.BS=true)->VRs g (xvs F xs) (l.map a.eval)
 |[],xs,Z,_=>by simp only [xos,AM] at Z;subst Z;exact .nil
 |y::l,xs,Z,hn=>by
  simp only [xos,AT,AB] at Z;obtain ⟨x,hx1,xs',hxs,he⟩:=Z;cases he;simp only [xvs,AF,BO,AO] at hn;exact .cons ((Ah hx1 h).vr hn.1) (UY h l xs' hxs hn.2)
def AII {c y v:AV} {cvl xvl yvl:Value} (hc:SV g lam c cvl) (Z:SV g lam x xvl) (hy:SV g lam y yvl) (hv:AED c x y=some v):
 ∃z,((do pure (.value (if <- asBool cvl then xvl else yvl)):Sem Next)).run P w= .ok (.value z) w/\SV g lam v z:=by
 cases c with
 |d c=>cases c with
  |bool b=>
   cases hc with|d hc=>
   cases hc;cases hv;cases b
   . exact ⟨yvl,by simp [asBool],by simpa using hy⟩
   . exact ⟨xvl,by simp [asBool],by simpa using Z⟩
  |_=>cases hv
 |_=>cases hv
def MA {t:TypeId} (he:T3 P t=some e):P.underlying t=some (.slice e):=by
 unfold T3 at he;split at he
 . rename_i e' hh;cases he;exact hh
 . cases he
variable {P:Program} {Y:AH} {F:Fm} {L:Lm}
def E7 {ρ:Operand->Value} {s:Sem Value} (h:execOp ρ o=(do pure (.value (<- s)):Sem Next)) {w w':World} {x:Value} (hs:s.run P w= .ok x w'):
 (execOp ρ o).run P w= .ok (.value x) w':=by rw [h];simp [hs]
def AGH {dst:Option Tmp} {c:Call} {pos:String} {after:Array Edge} {guard:Option (Nat×Bool)} {co:O} {v:AV} {sh:Bool} (hc:eQ P sh c=some co) (hv:pv F L Y co=some v):
 VOp P ⟨dst,.call c,ty,pos,after,guard⟩ F L Y v:=by
 obtain ⟨callee,args,argTypes⟩:=c;obtain ⟨args⟩:=args;obtain ⟨argTypes⟩:=argTypes;unfold eQ at hc;cases callee with
 |invoke r m=>cases hc
 |value f=>
  cases f<;>simp only at hc
  . simp only [AK] at hc;obtain ⟨xs,_,rfl⟩:=hc;simp [pv] at hv
  . cases hc
  . cases hc
  . split at hc
    . simp only [AK] at hc;obtain ⟨xs,_,rfl⟩:=hc;simp [pv] at hv
    . cases hc
 |builtin b=>
  simp only at hc;unfold AP2 at hc;split at hc
  . rename_i x t;cases hu:P.underlying t with
    |none=>rw [hu] at hc;cases hc
    |some d=>
     rw [hu] at hc;cases d<;>try (cases hc;done)
     . simp only [AK] at hc;obtain ⟨xx,Z,rfl⟩:=hc
       exact .same fun base g lam Pr N a w0 w h=>by
        obtain ⟨u,hz,hs⟩:=AI4 (P:=P) (w:=w) hu ty (Ah Z h) hv;exact ⟨u,by simp [execOp,resolve,invoke,builtin,hz],hs⟩
     . simp only [AK] at hc;obtain ⟨xx,Z,rfl⟩:=hc
       exact .same fun base g lam Pr N a w0 w h=>by
        obtain ⟨u,hz,hs⟩:=AND (P:=P) (w:=w) hu ty (Ah Z h) hv;exact ⟨u,by simp [execOp,resolve,invoke,builtin,hz],hs⟩
  . simp only [AT,AB] at hc;obtain ⟨x,Z,x2,hx2,hh⟩:=hc;cases hh
    exact .same fun base g lam Pr N a w0 w h=>by
     obtain ⟨u,hz,hs⟩:=fS (P:=P) (w:=w) (b:=true) argTypes.toArray ty (Ah Z h) (Ah hx2 h) hv;exact ⟨u,by simp only [if_true] at hz;simp [execOp,resolve,invoke,builtin,hz],hs⟩
  . simp only [AT,AB] at hc;obtain ⟨x,Z,x2,hx2,x3,hx3,hh⟩:=hc;cases hh;simp only [pv,AB] at hv;obtain ⟨v1,hv1,hv2⟩:=hv
    exact .same fun base g lam Pr N a w0 w h=>by
     have hs1:=Ah Z h;have hs2:=Ah hx2 h;have hs3:=Ah hx3 h;obtain ⟨u,hz,hs⟩:=fS (P:=P) (w:=w) (b:=true) argTypes.toArray ty hs1 hs2 hv1;obtain ⟨u2,hz2,hs'⟩:=fS (P:=P) (w:=w) (b:=true) argTypes.toArray ty hs hs3 hv2;refine ⟨u2,?_,hs'⟩;simp only [if_true,Builtin.max_] at hz hz2;simp only [List.foldlM_cons,List.foldlM_nil,bind_pure] at hz hz2;simp [execOp,resolve,invoke,builtin,Builtin.max_,hz,hz2]
  . simp only [AT,AB] at hc;obtain ⟨x,Z,x2,hx2,hh⟩:=hc;cases hh
    exact .same fun base g lam Pr N a w0 w h=>by
     obtain ⟨u,hz,hs⟩:=fS (P:=P) (w:=w) (b:=false) argTypes.toArray ty (Ah Z h) (Ah hx2 h) hv;exact ⟨u,by simp only [A1,if_false] at hz;simp [execOp,resolve,invoke,builtin,hz],hs⟩
  . simp only [AT,AB] at hc;obtain ⟨e,_,i,_,z,_,hh⟩:=hc;split at hh
    . simp only [AB] at hh;obtain ⟨xl,_,xc,_,hh⟩:=hh;cases sh
      . cases hh;simp [pv] at hv
      . cases hh;simp [pv] at hv
    . cases hh
  . cases hc
def ASC {sh im:Bool} {v:AV} (hc:xQ P sh im lc o.op=some c) (hv:pv F L Y c=some v):VOp P o F L Y v:=by
 obtain ⟨dst,op,ty,pos,after,guard⟩:=o;cases op<;>simp only [xQ] at hc
 case move y=>
  simp only [AK] at hc;obtain ⟨x,Z,rfl⟩:=hc;simp only [pv,AM] at hv;subst hv;exact .same fun base g lam Pr N a w0 w h=>⟨a.eval y,by simp [execOp],Ah Z h⟩
 case assign y=>
  simp only [AK] at hc;obtain ⟨x,Z,rfl⟩:=hc;simp only [pv,AM] at hv;subst hv;exact .same fun base g lam Pr N a w0 w h=>⟨a.eval y,by simp [execOp],Ah Z h⟩
 case pick c y z=>
  simp only [AT,AB] at hc;obtain ⟨xc,h1,xy,h2,xz,h3,he⟩:=hc;cases he;exact .same fun base g lam Pr N a w0 w h=>AII (Ah h1 h) (Ah h2 h) (Ah h3 h) hv
 case alloc t=>
  simp only [AK] at hc;obtain ⟨z,hz,rfl⟩:=hc;simp [pv] at hv
 case box t y=>
  simp only [AK] at hc;obtain ⟨z,hz,rfl⟩:=hc;cases im
  . simp [pv] at hv
  . simp only [if_true,pv,AK] at hv;obtain ⟨l,hl,rfl⟩:=hv;intro base g lam Pr N a w0 w h;obtain ⟨x,g',w',hr,h1,h2,h3,h4⟩:=AF6 (P:=P) (t:=t) hz h hl;exact ⟨x,g',w',E7 rfl hr,h1,h2,SV.FT h3,h4⟩
 case field s y f=>
  simp only [AT,AB] at hc;obtain ⟨x,Z,off,ho,n,hn,he⟩:=hc;cases he
  exact .same fun base g lam Pr N a w0 w h=>by
   obtain ⟨z,hz,hs⟩:=AQO (P:=P) (w:=w) ho hn (Ah Z h) hv;exact ⟨z,E7 rfl hz,SV.FT hs⟩
 case slice t y lo hi mx=>
  cases hu:P.underlying t with
  |none=>rw [hu] at hc;cases hc
  |some d=>
   rw [hu] at hc;cases d<;>try (cases hc;done)
   . cases mx with
     |some _=>cases hc
     |none=>
      simp only [AT,AB] at hc;obtain ⟨x,Z,xl,hxl,xh,hxh,hh⟩:=hc;cases hh
      exact .same fun base g lam Pr N a w0 w h=>by
       obtain ⟨z,hz,hs⟩:=AOO (P:=P) (w:=w) hu (Ah Z h) (UW hxl h) (UW hxh h) hv;exact ⟨z,E7 rfl hz,SV.FT hs⟩
   . rename_i e;cases sh
     . simp only [A1,if_false,AT,AB] at hc;obtain ⟨x,Z,xl,hxl,xh,hxh,xm,hxm,sz,hsz,hh⟩:=hc;cases hh
       exact .same fun base g lam Pr N a w0 w h=>by
        obtain ⟨z,hz,hs⟩:=AON (P:=P) (w:=w) hu hsz (Ah Z h) (UW hxl h) (UW hxh h) (UW hxm h) hv;exact ⟨z,E7 rfl hz,SV.FT hs⟩
     . simp only [if_true] at hc;obtain ⟨rfl,z,rfl,rfl,x,xh,sz,_,_,_,rfl⟩:=zC hc;simp [pv] at hv
 case fieldAddr s y f=>
  simp only [AT,AB] at hc;obtain ⟨x,Z,off,ho,he⟩:=hc;cases he
  exact .same fun base g lam Pr N a w0 w h=>by
   obtain ⟨z,hz,hs⟩:=AMH (P:=P) (w:=w) ho (Ah Z h) hv;exact ⟨z,E7 rfl hz,hs⟩
 case load t y=>
  simp only [AT,AB] at hc;obtain ⟨x,Z,n,hn,he⟩:=hc
  have hv2:ldA L Y (xv F x) n=some v:=by
   cases lc
   . cases he;exact hv
   . cases he;have hv:AAX L (xv F x) n=some v:=hv;cases hxx:xv F x<;>rw [hxx] at hv<;>simp only [AAX] at hv<;>try (cases hv;done)
     exact hv
  exact .same fun base g lam Pr N a w0 w h=>by
   obtain ⟨z,hz,hs⟩:=AD0 hn h (Ah Z h) hv2;exact ⟨z,E7 rfl hz,SV.FT hs⟩
 case store t y z=>
  simp only [AT,AB] at hc;obtain ⟨x,Z,x2,hx2,n,hn,he⟩:=hc;cases he;simp [pv] at hv
 case indexAddr t y i=>
  simp only [AT,AB] at hc;obtain ⟨x,Z,xi,hxi,e,he,n,hn,hh⟩:=hc;cases hh
  exact .same fun base g lam Pr N a w0 w h=>by
   obtain ⟨z,hz,hs⟩:=AQ5 (P:=P) (w:=w) he hn (Ah Z h) (Ah hxi h) hv;exact ⟨z,E7 rfl hz,hs⟩
 case index t y i=>
  cases hu:P.underlying t with
  |none=>rw [hu] at hc;cases hc
  |some d=>
   rw [hu] at hc;cases d<;>try (cases hc;done)
   simp only [AT,AB] at hc;obtain ⟨x,Z,xi,hxi,hh⟩:=hc;cases hh
   exact .same fun base g lam Pr N a w0 w h=>by
    obtain ⟨z,hz,hs⟩:=AI2 (P:=P) (w:=w) hu (Ah Z h) (Ah hxi h) hv;exact ⟨z,E7 rfl hz,hs⟩
 case binOp op t y z t2=>
  cases hu:P.underlying t with
  |none=>rw [hu] at hc;cases hc
  |some d=>
   rw [hu] at hc;cases d<;>try (cases hc;done)
   case bool=>
    simp only [AT,AB] at hc;obtain ⟨x,Z,xi,hxi,hh⟩:=hc;cases hh
    exact .same fun base g lam Pr N a w0 w h=>by
     obtain ⟨u,hz,hs⟩:=AF4 (P:=P) (w:=w) hu y z (Ah Z h) (Ah hxi h) hv;exact ⟨u,E7 rfl hz,hs⟩
   case pointer e=>
    obtain ⟨rfl,ne,x,hop,Z,rfl⟩:=sT hc
    exact .same fun base g lam Pr N a w0 w h=>by
     obtain ⟨u,hz,hs⟩:=AIM (P:=P) (w:=w) (op:=op) hu hop y (.const (.pointer none)) (Ah Z h) hv;exact ⟨u,E7 rfl hz,hs⟩
   case struct fs=>
    have hc:(if Tp P t then y7 op fs.size y z else none)=some c:=hc;split at hc
    . rename_i his;obtain ⟨ne,x,xi,hop,Z,hxi,rfl⟩:=tX hc
      exact .same fun base g lam Pr N a w0 w h=>by
       obtain ⟨u,hz,hs⟩:=AI9 (P:=P) (w:=w) hu his hop y z (Ah Z h) (Ah hxi h) hv;exact ⟨u,E7 rfl hz,hs⟩
    . cases hc
   all_goals
    simp only [AT,AB] at hc;obtain ⟨x,Z,xi,hxi,hh⟩:=hc;cases hh
    exact .same fun base g lam Pr N a w0 w h=>by
     obtain ⟨u,hz,hs⟩:=ALL (P:=P) (w:=w) (t:=t) y z (Ah Z h) (Ah hxi h) hv;exact ⟨u,E7 rfl hz,hs⟩
 case unOp op t y=>
  simp only [AT,AB] at hc;obtain ⟨x,Z,hh⟩:=hc;cases hh
  exact .same fun base g lam Pr N a w0 w h=>by
   obtain ⟨u,hz,hs⟩:=ATB (P:=P) (w:=w) (Ah Z h) hv;exact ⟨u,E7 rfl hz,hs⟩
 case convert s t y=>
  cases hu:P.underlying s with
  |none=>rw [hu] at hc;cases hc
  |some d=>
   rw [hu] at hc;cases d<;>try (cases hc;done)
   cases hu2:P.underlying t with
   |none=>rw [hu2] at hc;cases hc
   |some d2=>
    rw [hu2] at hc;cases d2<;>try (cases hc;done)
    simp only [AT,AB] at hc;obtain ⟨x,Z,hh⟩:=hc;cases hh
    exact .same fun base g lam Pr N a w0 w h=>by
     obtain ⟨u,hz,hs⟩:=AGV (P:=P) (w:=w) hu hu2 (Ah Z h) hv;exact ⟨u,E7 rfl hz,hs⟩
 case build t ps=>
  simp only [AT,AB] at hc;obtain ⟨z,hz,pl,hpl,cps,hcps,hh⟩:=hc;cases hh;simp only [pv,AK] at hv;obtain ⟨cs,hcs,rfl⟩:=hv
  exact .same fun base g lam Pr N a w0 w h=>by
   obtain ⟨u,hu,hs⟩:=ALM hz hpl hcps h hcs;exact ⟨u,E7 rfl hu,SV.FT hs⟩
 case buildSlice t len ps=>
  simp only [AT,AB] at hc;obtain ⟨e,he,z,hz,n,hn,hh⟩:=hc;split at hh
  . rename_i hcond;simp only [AB] at hh;obtain ⟨cps,hcps,hh⟩:=hh
    have hv2:pv F L Y (.bsl n len (AG len z).flatten cps)=some v:=by
     cases sh
     . cases hh;exact hv
     . cases hh;simp [pv] at hv
    simp only [pv,AK,AB] at hv2;obtain ⟨l,⟨cs,hcs,hl⟩,rfl⟩:=hv2;intro base g lam Pr N a w0 w h;obtain ⟨x,g',w',hr,h1,h2,h3,h4⟩:=ALN he hz hn hcond hcps h hcs hl;exact ⟨x,g',w',E7 rfl hr,h1,h2,SV.FT h3,h4⟩
  . cases hh
 case makeFunc fn first caps=>
  cases fn<;>simp only [AT,AB] at hc<;>try (cases hc;done)
  rename_i f;obtain ⟨xf,hxf,xc,hxc,hh⟩:=hc;cases hh;simp only [pv] at hv;split at hv
  . rename_i hn;cases hv;simp only [ZV,AO] at hn
    exact .same fun base g lam Pr N a w0 w h=>by
     have h1:=UY h first.toList xf hxf hn.1;have h2:=UY h caps.toList xc hxc hn.2;refine ⟨.func (.func f) (first.map a.eval) (caps.map a.eval),by simp [execOp,Instr.makeFunc],SV.FT ?_⟩;have e1:first.map a.eval=(first.toList.map a.eval).toArray:=Array.ext' (by simp);have e2:caps.map a.eval=(caps.toList.map a.eval).toArray:=Array.ext' (by simp);rw [e1,e2];exact .fn h1.length h2.length h1.idx h2.idx
  . cases hv
 case extract y i=>
  simp only [AK] at hc;obtain ⟨x,Z,rfl⟩:=hc
  exact .same fun base g lam Pr N a w0 w h=>by
   obtain ⟨u,hz,hs⟩:=AL9 (P:=P) (w:=w) (Ah Z h) hv;exact ⟨u,E7 rfl hz,SV.FT hs⟩
 case nilCheck y=>
  simp only [AK] at hc;obtain ⟨x,Z,rfl⟩:=hc;simp only [pv] at hv
  exact .same fun base g lam Pr N a w0 w h=>by
   have hs:=Ah Z h
   have key:∀p:Addr,a.eval y= .pointer (some p)->(execOp a.eval ⟨dst,.nilCheck y,ty,pos,after,guard⟩).run P w= .ok (.value (.pointer (some p))) w:=by
    intro p hp;simp only [execOp,hp];rfl
   generalize a.eval y=vy at hs key;cases hxv:xv F x<;>rw [hxv] at hv hs<;>simp only [ARN,AM] at hv<;>try (cases hv;done)
   . rename_i dx;cases dx<;>simp only [AM] at hv<;>try (cases hv;done)
     subst hv;cases hs with|d hs=>cases hs with|ptr hi hr=>exact ⟨_,key _ rfl,.d (.ptr hi hr)⟩
   . subst hv;obtain ⟨b,hb,rfl⟩:=hs;exact ⟨_,key _ rfl,b,hb,rfl⟩
   . subst hv;cases hs with|gp hm=>exact ⟨_,key _ rfl,.gp hm⟩
   . subst hv;cases hs with|ep hi hr=>exact ⟨_,key _ rfl,.ep hi hr⟩
 case makeSlice t l c=>
  simp only [AT,AB] at hc;obtain ⟨e,he,i,hi,z,hz,hh⟩:=hc;split at hh
  . simp only [AB] at hh;obtain ⟨xl,_,xc,_,hh⟩:=hh;cases hh;simp [pv] at hv
  . cases hh
 case call c=>exact AGH hc hv
 all_goals (cases hc;done)
variable {P:Program} {base N:Nat} {g g':Gh} {Pr:Nat->Prop} {Y σ':AH} {w0 w w':World} {lam:Nat->Option Nat} {F:Fm} {L:Lm} {a:Act}
def AaG (k:Nat) (F:Fm):Prop:=∀s off,s≠k->F s≠.lp k off
def U:Fm:=fun _=>.undef
def AV.CL (k:Nat):AV->Bool
 | .lp k' _=>k'==k
 |_=>false
def Dp (k:Nat) (F:Fm):Fm:=fun s=>if (F s).CL k then .undef else F s
def AFU (k:Nat) (F:Fm):AaG k (Dp k F):=by
 intro s off _ he;simp only [Dp] at he;split at he
 . cases he
 . rename_i h;rw [he] at h;simp [AV.CL] at h
def ADK (a:Act) (d s:Nat) (v:Value) (hd:d < a.tmps.size):(a.put (some d) v).tmps.getD s Cl=if s=d then v else a.tmps.getD s Cl:=by
 simp only [Act.put];by_cases e:s=d
 . subst e;simp [Array.getD,hd]
 . rw [if_neg e];simp [DI,Array.getElem?_setIfInBounds_ne (A6 e)]
def Bh.put (h:Bh base g lam Pr N F L Y a w0 w) {d:Nat} (hd:d < N) {v:AV} {x:Value} (hv:SV g lam v x):
 Bh base g lam Pr N (put d v F) L Y (a.put (some d) x) w0 w:=by
 refine ⟨fun s=>?_,by simpa [Act.put] using h.sz,h.df,h.loc,h.inj,h.npr,h.rel⟩;rw [ADK a d s x (by rw [h.sz];exact hd)];simp only [Ab.put];split
 . exact hv
 . exact h.tm s
def Bh.BL (h:Bh base g lam Pr N F L Y a w0 w) {d:Option Nat} (hd:∀k,d=some k->k < N) {v:AV} {x:Value} (hv:SV g lam v x):
 Bh base g lam Pr N (BL d v F) L Y (a.put d x) w0 w:=by
 cases d with
 |none=>exact h
 |some d=>exact h.put (hd d rfl) hv
def Bh.ARP (h:Bh base g lam Pr N F L Y a w0 w) {d:Nat} (hd:d < N) (hn:AaG d F) {vs:Array Value} (ty:TypeId) (hr:VRs g cs vs.toList) (hok:Ax cs=true):
 Bh base g (fun k=>if k=d then some w.heap.size else lam k) Pr N (Ab.put d (.lp d 0) F) (At d cs L) Y (a.put (some d) (.pointer (some ⟨w.heap.size,0,none⟩))) w0 (w.alloc (.cells vs ty)):=by
 have hlt:∀k b,lam k=some b->b < w.heap.size:=fun k b hb=>h.Kx hb;refine ⟨fun s=>?_,by simpa [Act.put] using h.sz,h.df,fun k cs' hk=>?_,fun k k' b hk hk'=>?_,fun k b hk hp=>?_,?_⟩
 . rw [ADK a d s _ (by rw [h.sz];exact hd)];simp only [Ab.put];split
   . exact ⟨w.heap.size,by simp,rfl⟩
   . rename_i hs;have ht:=h.tm s;cases hF:F s<;>rw [hF] at ht<;>try exact ht
     rename_i k off;have hk:k≠d:=fun e=>hn s off hs (e ▸ hF);obtain ⟨b,hb,he⟩:=ht;exact ⟨b,by simp [hk,hb],he⟩
 . simp only [At] at hk;split at hk
   . rename_i e;subst e;cases hk;exact ⟨hok,w.heap.size,vs,ty,by simp,h.rel.bs,heap_alloc_new w _,hr⟩
   . rename_i e;obtain ⟨hok',b,vs',ty',hb,hlow,hheap,hr'⟩:=h.loc k cs' hk;exact ⟨hok',b,vs',ty',by simp [e,hb],hlow,by rw [heap_alloc_old w _ b (hlt k b hb)];exact hheap,hr'⟩
 . by_cases e:k=d<;>by_cases e':k'=d<;>simp only [e,e',if_true,if_false] at hk hk'
   . omega
   . have:=hlt _ _ hk';cases hk;omega
   . have:=hlt _ _ hk;cases hk';omega
   . exact h.inj k k' b hk hk'
 . by_cases e:k=d
   . simp only [e,if_true] at hk;cases hk;have:=(h.rel.pr _ (.inl hp)).1;omega
   . simp only [e,if_false] at hk;exact h.npr k b hk hp
 . refine h.rel.grow (by simp) (fun b hb _=>heap_alloc_old w _ b hb) (XR h.rel.bs) fun b hb=>?_;rcases hb with hp|⟨k,hk⟩
   . exact ⟨by have:=(h.rel.pr b (.inl hp)).1;simp;omega,.inl (.inl hp)⟩
   . by_cases e:k=d
     . simp only [e,if_true] at hk;cases hk;exact ⟨by simp,.inr (AS _)⟩
     . simp only [e,if_false] at hk;exact ⟨by have:=hlt k b hk;simp;omega,.inl (.inr ⟨k,hk⟩)⟩
def wr (cs:List AV) (o:Nat) (new:List AV):List AV:=cs.take o++new++cs.drop (o+new.length)
def stA (L:Lm) (Y:AH) (new:List AV):AV->Option (Lm×AH)
 | .lp k o=>(L k).bind fun cs=>if o+new.length<=cs.length then some (At k (wr cs o new) L,Y) else none
 | .gp i o=>(Y.blk i).bind fun cs=>if o+new.length<=cs.length then some (L,Y.AL i (wr cs o new)) else none
 |_=>none
def AWC {α:Type} (arr vs:List α) (o n:Nat) (h:o+vs.length<=n) (hn:n<=arr.length):(arr.take o++vs++arr.drop (o+vs.length)).take n=(arr.take n).take o++vs++(arr.take n).drop (o+vs.length):=by
 have h1:(arr.take o).length=o:=by simp;omega
 have h2:((arr.take n).take o).length=o:=by simp;omega
 refine Et fun i=>?_;rw [B2];by_cases hi:i < n
 . rw [if_pos hi];by_cases h3:i < o
   . rw [Aq,Aq,BC (by omega),BC (by omega),B2,B2,B2,if_pos h3,if_pos h3,if_pos hi]
   . by_cases h4:i < o+vs.length
     . have h5:(arr.take o++vs).length=o+vs.length:=by rw [AY,h1]
       have h6:((arr.take n).take o++vs).length=o+vs.length:=by rw [AY,h2]
       rw [BC (l₁:=arr.take o++vs) (by omega),BC (l₁:=(arr.take n).take o++vs) (by omega),As (by omega),As (by omega),h1,h2]
     . have h5:(arr.take o++vs).length=o+vs.length:=by rw [AY,h1]
       have h6:((arr.take n).take o++vs).length=o+vs.length:=by rw [AY,h2]
       rw [As (by omega),As (by omega),BN,BN,B2,h5,h6,if_pos (by omega)]
 . rw [if_neg hi,BM];simp only [AY,h2,Df,B5];omega
def eE {cs:Array Value} (hb:base<=b):Below base w (w.setRow b cs):=
 ⟨rfl,rfl,rfl,by simp,fun k hk=>setRow_other w b k cs (by omega)⟩
def Bh.store (h:Bh base g lam Pr N F L Y a w0 w) {new:List AV} (hp:SV g lam p pvl) (hr:VRs g new vs) (hok:Ax new=true)
 {L':Lm} {σ':AH} (hst:stA L Y new p=some (L',σ')):
 ∃ad w',pvl= .pointer (some ad)/\(storeCells ad vs).run P w= .ok () w'/\KP Pr w w'/\Bh base g lam Pr N F L' σ' a w0 w':=by
 have hones:=hr.AbF hok;have hlen:=hr.length;cases p with
 |lp k o=>
  obtain ⟨b,hb,rfl⟩:=hp;simp only [stA,AB] at hst;obtain ⟨cs,hcs,hst⟩:=hst;split at hst
  . rename_i hle;cases hst;obtain ⟨hokc,b',arr,ty,hb',hlow,hheap,hrc⟩:=h.loc k cs hcs;rw [hb] at hb';cases hb';have hal:=hrc.length;have hrun:=run_storeCells_at P b o ty vs 0 arr w hheap (by simp at hal;omega) hones;simp only [CF] at hrun;refine ⟨_,_,rfl,hrun,⟨by simp,fun b2 hp2=>setRow_other w b b2 _ (fun e=>h.npr k b hb (e ▸ hp2))⟩,?_⟩;refine ⟨h.tm,h.sz,h.df,fun k2 cs2 hk2=>?_,h.inj,h.npr,?_⟩
    . simp only [At] at hk2;split at hk2
      . rename_i e;subst e;cases hk2;refine ⟨by simp [wr,Gm,Ob _ hokc,Uj _ hokc,hok],b,_,ty,hb,hlow,setRow_heap w b arr _ ty _ hheap,?_⟩;simp only [wr,hlen];exact ((hrc.take o).append hr).append (hrc.drop _)
      . rename_i e;obtain ⟨hok2,b2,vs2,ty2,hb2,hlow2,hheap2,hr2⟩:=h.loc k2 cs2 hk2;exact ⟨hok2,b2,vs2,ty2,hb2,hlow2,by rw [setRow_other w b b2 _ (fun e'=>e (h.inj k2 k b (e' ▸ hb2) hb))];exact hheap2,hr2⟩
    . exact h.rel.grow (by simp) (fun b2 _ hn=>setRow_other w b b2 _ (fun e=>hn (.inr ⟨k,e ▸ hb⟩))) (eE hlow)
       (fun b2 hb2=>⟨by have:=(h.rel.pr b2 hb2).1;simpa using this,.inl hb2⟩)
  . cases hst
 |gp i o=>
  simp only [stA,AB] at hst;obtain ⟨cs,hcs,hst⟩:=hst;split at hst
  . rename_i hle;cases hst;obtain ⟨b,hm,ho⟩:=h.rel.shr i cs hcs;obtain ⟨arr,ty,hheap,hle0,hrt,hrc⟩:=ho.row;cases hp with
    |gp hm'=>
     rw [hm] at hm';cases hm';have hrun:=run_storeCells_at P b o ty vs 0 arr w hheap (by omega) hones;simp only [CF] at hrun;have hpr:¬(Pr b\/∃k,lam k=some b):=ho.pr;refine ⟨_,_,rfl,hrun,⟨by simp,fun b2 hp2=>setRow_other w b b2 _ (fun e=>hpr (.inl (e ▸ hp2)))⟩,?_⟩;refine h.step (Gh.le_refl g) (fun k b2 hk=>setRow_other w b b2 _ (fun e=>hpr (.inr ⟨k,e ▸ hk⟩))) ?_;have hwl:(wr cs o new).length=cs.length:=by simp [wr];omega
     refine h.rel.write hcs hm (by simp) (fun k _ hk=>setRow_other w b k _ hk) (eE ho.low) (setRow_heap w b arr _ ty _ hheap) (by rw [hwl];simp;omega) (fun t ht=>⟨by rw [<- (hrt t ht).1];simp;omega,(hrt t ht).2⟩) ?_ (by simp [wr,Gm,Ob _ ho.ok,Uj _ ho.ok,hok]);rw [hwl];have e:=AWC arr.toList vs o cs.length (by omega) (by simpa using hle0);simp only [List.toList_toArray];rw [e];simp only [wr,hlen];exact ((hrc.take o).append hr).append (hrc.drop _)
  . cases hst
 |_=>simp [stA] at hst
def O2 (Y:AH) (e size:Nat):AV->Option (List (List DV)×AH)
 | .Ad=>some ([],Y)
 | .own t e' s' rows=>if e'=e/\s'=size/\Y.tok t=true then some (rows,Y.CP t) else none
 |_=>none
def qY {size:Nat}:∀(rows:List (List DV)),(∀r∈rows,r.length=size)->∀(i j:Nat) (r:List DV) (x:DV),rows[i]?=some r->r[j]?=some x->(rows.flatten)[i * size+j]?=some x
 |[],_,i,j,r,x,hi,_=>by simp at hi
 |r0::rows,hs,0,j,r,x,hi,hj=>by
  simp at hi;subst hi;have:=(AE.1 hj).1;simp only [Nb,BF,BW];rw [BC this];exact hj
 |r0::rows,hs,i+1,j,r,x,hi,hj=>by
  have h0:r0.length=size:=hs r0 (by simp);simp only [BW];rw [As (by rw [h0,Na];omega),h0];have:(i+1) * size+j - size=i * size+j:=by rw [Na];omega
  rw [this];exact qY rows (fun r hr=>hs r (by simp [hr])) i j r x (by simpa using hi) hj
def FP {size:Nat}:∀(rows:List (List DV)),(∀r∈rows,r.length=size)->rows.flatten.length=rows.length * size
 |[],_=>by simp
 |r0::rows,hs=>by
  simp only [BW,AY,A0,Na];rw [FP rows (fun r hr=>hs r (by simp [hr])),hs r0 (by simp)];omega
def RD.cellsOf {rows:List (List DV)} {size:Nat} (hs:∀r∈rows,r.length=size) {len:Nat}
 (h:RD im (.sl rows) (.slice (some ⟨b,off,none⟩) len cap)) (h0:0 < rows.length):∃vs:List Value,vs.length=rows.length * size/\len=rows.length/\
   (∀(j:Nat) (u:Value),vs[j]?=some u->im b (off+j)=some u)/\(∀(j:Nat) (x:DV),rows.flatten[j]?=some x->∃v,vs[j]?=some v/\RD im x v):=by
 cases h with
 |nil=>simp at h0
 |@sl _ _ _ _ size' f hc hm hs' hi hr=>
  have hsz:size'=size:=by
   obtain ⟨r,hr⟩:∃r,r∈rows:=by cases rows with|nil=>simp at h0|cons r _=>exact ⟨r,by simp⟩
   rw [<- hs r hr,hs' r hr]
  subst hsz;by_cases hz:size'=0
  . subst hz;refine ⟨[],by simp,rfl,by simp,fun j x Z=>?_⟩;have:=FP rows hs;have:=(AE.1 Z).1;omega
  have hpos:0 < size':=Nat.pos_of_ne_zero hz;refine ⟨(Av (rows.length * size')).map fun j=>f (j / size') (j % size'),by simp,rfl,fun j u hj=>?_,fun j x Z=>?_⟩
  . rw [Am,AK] at hj;obtain ⟨j',hj',rfl⟩:=hj
    have hlt:j < rows.length * size':=by
     rcases C8 j (rows.length * size') with h1|h1
     . exact h1
     . simp [h1] at hj'
    rw [Dy hlt] at hj';cases hj';have h1:j / size' < rows.length:=(Nat.div_lt_iff_lt_mul hpos).2 hlt;have h2:j % size' < size':=Nat.mod_lt _ hpos;have:=hi (j / size') (j % size') h1 h2;rw [Nat.add_assoc,Nat.mul_comm,Nat.div_add_mod] at this;exact this
  . have hlt:j < rows.length * size':=by rw [<- FP rows hs];exact (AE.1 Z).1
    refine ⟨f (j / size') (j % size'),by rw [Am,Dy hlt];rfl,?_⟩;have h1:j / size' < rows.length:=(Nat.div_lt_iff_lt_mul hpos).2 hlt;have h2:j % size' < size':=Nat.mod_lt _ hpos;have hrow:rows[j / size']?=some rows[j / size']:=by simp [h1]
    have hcell:(rows[j / size'])[j % size']?=some ((rows[j / size'])[j % size']'(by rw [hs' _ (E5 h1)];exact h2)):=by
     have hh:j % size' < (rows[j / size']).length:=by rw [hs' _ (E5 h1)];exact h2
     simp [hh]
    have:=qY rows hs' _ _ _ _ hrow hcell;rw [Nat.mul_comm,Nat.div_add_mod,Z] at this;cases this;exact hr _ _ _ _ hrow hcell
def RD.AIH {rows:List (List DV)} {size:Nat} {ys:List Value} (hs:∀r∈rows,r.length=size) (hc:rows.length<=cap) (hm:cap<=maxLen)
 (hl:ys.length=rows.length * size) (him:∀(j:Nat) (u:Value),ys[j]?=some u->im b (off+j)=some u)
 (hr:∀(j:Nat) (x:DV),rows.flatten[j]?=some x->∃v,ys[j]?=some v/\RD im x v):RD im (.sl rows) (.slice (some ⟨b,off,none⟩) rows.length cap):=by
 refine .sl (size:=size) (f:=fun i j=>ys.getD (i * size+j) (.bool false)) hc hm hs (fun i j hi hj=>?_) (fun i r j x hi hj=>?_)
 . have:i * size+size<=rows.length * size:=by rw [<- Na];exact Bi _ hi
   have hlt:i * size+j < ys.length:=by omega
   rw [Nat.add_assoc];exact him _ _ (by simp [Ay hlt])
 . obtain ⟨v,hv,hrd⟩:=hr _ _ (qY rows hs i j r x hi hj);rw [A2,hv];exact hrd
def AKR {e size:Nat} (h:w.ownsRow base e size v n xs) {rows:List (List DV)} (hr:RD im (.sl rows) v):n=rows.length:=by
 obtain ⟨ad,cap,rfl,_⟩:=hr.OE;rcases h.2 with ⟨he,rfl⟩|⟨gg,cap',cur,he,_⟩
 . simp only [Value.slice.injEq] at he;exact he.2.1.symm
 . simp only [Value.slice.injEq] at he;exact he.2.1.symm
def ALH {t:TypeId} (ht:P.underlying t=some (.slice e)) (hi:P.info? e=some i) (hz:i.zero=some z) (hzs:z.cells.size=i.size)
 (h:Bh base g lam Pr N F L Y a w0 w) (hp:SV g lam p pvl) (hq:SV g lam q qvl) {rows:List (List DV)} 
 (hpa:O2 Y e i.size p=some (rows,σ1)) (hqr:q.rows=some srows) (hss:∀r∈srows,r.length=i.size)
 (h63:rows.length+srows.length<=maxLen) (hby:(rows.length+srows.length) * i.bytes<=140737488355328):
 ∃x g' w' t',(Builtin.append_ #[t,t] ty #[pvl,qvl]).run P w= .ok x w'/\g.le g'/\KP Pr w w'/\Y.tok t'=false/\VR g' (.own t' e i.size (rows++srows)) x/\
  Bh base g' lam Pr N F L (σ1.Bq t') a w0 w':=by
 obtain ⟨t',_,htau,_,htok⟩:=h.rel.fresh
 -- the owner
 have hmine:∃xs,uU base g (fun b=>Pr b\/∃k,lam k=some b) σ1 w e i.size pvl rows.length xs/\σ1.le Y/\(∀r∈rows,r.length=i.size)/\
  (∀(j:Nat) (x:DV),rows.flatten[j]?=some x->∃v,xs[j]?=some v/\RD g.im x v):=by
  unfold O2 at hpa;split at hpa
  . cases hpa;cases hp;exact ⟨[],uU.nil _ _ _ _ _ _ _,AH.le_refl _,by simp,by simp⟩
  . split at hpa
    . rename_i hcond;obtain ⟨rfl,rfl,htk⟩:=hcond;cases hpa;cases hp with
      |own hrd htau2 hsz=>
       obtain ⟨n,xs,hm⟩:=h.rel.AY0 htk htau2 (by cases hrd<;>rfl);have hn:=AKR hm.1 hrd;subst hn;refine ⟨xs,hm,AH.ZF _ _,hsz,fun j x Z=>?_⟩;have hpos:0 < rows.length:=by cases rows with|nil=>simp at Z|cons=>simp
       rcases hm.1.2 with ⟨_,h0⟩|⟨gg,cap,cur,rfl,hbg,hgg,_⟩
       . omega
       obtain ⟨vs,hvl,_,hvi,hvr⟩:=RD.cellsOf hsz hrd hpos;obtain ⟨v,hv,hrdv⟩:=hvr j x Z;refine ⟨v,?_,hrdv⟩;have hlt:j < xs.length:=by rw [hm.1.1,<- hvl];exact (AE.1 hv).1
       have h1:=h.rel.im _ _ _ (hvi j v hv);have h2:=hm.1.cells (g:=gg) rfl j xs[j] (by simp [hlt]);rw [Addr.add_lit,BF] at h2;rw [BF] at h1;rw [h1] at h2;cases h2;simp [hlt]
    . cases hpa
  . cases hpa
 obtain ⟨xs,hmine,hle1,hsz,hxs⟩:=hmine
 -- the source
 have hsrc:∃(m:Nat) (news:List Value) (v':Value) (w':World),(Builtin.append_ #[t,t] ty #[pvl,qvl]).run P w= .ok v' w'/\m=srows.length/\news.length=m * i.size/\
  w'.ownsRow base e i.size v' (rows.length+m) (xs++news)/\w.grownBy w' v'.ownBlock/\(∀k,v'.ownBlock=some k->pvl.ownBlock=some k\/w.heap.size<=k)/\
  (∀(j:Nat) (x:DV),srows.flatten[j]?=some x->∃v,news[j]?=some v/\RD g.im x v):=by
  have hqd:RD g.im (.sl srows) qvl:=by
   cases q with
   |d x=>cases x<;>simp only [AV.rows,AM] at hqr<;>try (cases hqr;done)
         subst hqr;cases hq with|d h=>exact h
   |Ad=>simp only [AV.rows,AM] at hqr;subst hqr;cases hq;exact .nil (FO _) (fun _=>rfl)
   |own _ _ _ _=>simp only [AV.rows,AM] at hqr;subst hqr;cases hq with|own h _ _=>exact h
   |clip _=>simp only [AV.rows,AM] at hqr;subst hqr;cases hq with|clip h=>exact h
   |_=>cases hqr
  by_cases h0:srows.length=0
  . have hnil:srows=[]:=An h0;subst hnil;cases hqd with
    |@nil ad cap hcm hcap=>
     cases ad with
     |none=>
      have:=hcap rfl;subst this;refine ⟨0,[],pvl,w,run_append_owned_none w base t ty e i i.size ht hi pvl rows.length xs hmine.1,rfl,by simp,by simpa using hmine.1,⟨rfl,rfl,rfl,AS _,fun _ _ _=>rfl⟩,fun k hk=>.inl hk,by simp⟩
     |some ad=>
      obtain ⟨v',w',h1,h2,h3,h4⟩:=Eo (P:=P) w base t ty e i z i.size i.bytes ht hi hz rfl rfl hzs pvl rows.length xs hmine.1 ad 0 cap [] (by simp) (by simp) (by simp) (by simpa using h63) (by simpa using hby) h.rel.bs;exact ⟨0,[],v',w',h1,rfl,by simp,h2,h3,h4,by simp⟩
    |sl hc hm hs hi hr=>
     obtain ⟨v',w',h1,h2,h3,h4⟩:=Eo (P:=P) w base t ty e i z i.size i.bytes ht ‹_› hz rfl rfl hzs pvl rows.length xs hmine.1 _ 0 _ [] (by simp) (by simp) (by simp) (by simpa using h63) (by simpa using hby) h.rel.bs;exact ⟨0,[],v',w',h1,rfl,by simp,h2,h3,h4,by simp⟩
  . obtain ⟨ad,cap,rfl,_⟩:=hqd.OE;have hpos:0 < srows.length:=Nat.pos_of_ne_zero h0
    obtain ⟨b,off,rfl⟩:∃b off,ad=some ⟨b,off,none⟩:=by
     generalize hvv:(Value.slice ad srows.length cap)=vv at hqd;cases hqd with
     |nil=>simp at hpos
     |sl=>cases hvv;exact ⟨_,_,rfl⟩
    obtain ⟨news,hnl,_,hni,hnr⟩:=RD.cellsOf hss hqd hpos
    have hones:∀u∈news,u.oneCell'=true:=by
     intro u hu;obtain ⟨j,hj,rfl⟩:=Bv hu;have hjf:j < srows.flatten.length:=by rw [FP srows hss,<- hnl];exact hj
     obtain ⟨v,hv,hrd⟩:=hnr j srows.flatten[j] (by simp);have:v=news[j]:=by rw [Ay hj] at hv;cases hv;rfl
     rw [<- this];exact hrd.one
    obtain ⟨v',w',h1,h2,h3,h4⟩:=Eo (P:=P) w base t ty e i z i.size i.bytes ht hi hz rfl rfl hzs pvl rows.length xs hmine.1 ⟨b,off,none⟩ srows.length cap news hnl
     (fun j u hu=>by rw [Addr.add_lit];exact h.rel.im _ _ _ (hni j u hu)) hones h63 hby h.rel.bs
    exact ⟨srows.length,news,v',w',h1,rfl,hnl,h2,h3,h4,hnr⟩
 obtain ⟨m,news,v',w',hrun,rfl,hnl,hown',hgr,hwh,hnr⟩:=hsrc;have hrel1:=h.rel.less hle1;have hle:=hrel1.pE (news:=news) (e:=e) (size:=i.size) (t':=t') hmine hwh htau;have hrel':=hrel1.AYO (t':=t') hmine hown' hgr hwh htau
 have hnpr:∀b,v'.ownBlock=some b->¬(Pr b\/∃k,lam k=some b):=fun b hb=>by
  rcases hwh b hb with hvb|hge
  . exact (hmine.2 b hvb).2.1
  . intro hp;have:=(h.rel.pr b hp).1;omega
 refine ⟨v',g.grow v' e i.size t' (xs++news),w',t',hrun,hle,⟨hgr.size,fun b hb=>hgr.block b (h.rel.pr b (.inl hb)).1 (fun e'=>hnpr b e'.symm (.inl hb))⟩,htok,?_,
  h.step hle (fun k b hb=>hgr.block b (h.Kx hb) (fun e'=>hnpr b e'.symm (.inr ⟨k,hb⟩))) hrel'⟩
 have hall:∀r∈rows++srows,r.length=i.size:=fun r hr=>by
  rcases AZ.1 hr with h1|h1
  . exact hsz r h1
  . exact hss r h1
 refine .own ?_ (by simp [Gh.grow]) hall;have hxl:xs.length=rows.length * i.size:=hmine.1.1;rcases hown'.2 with ⟨rfl,h0⟩|⟨gg,cap,cur,rfl,hbg,hgg,hnc,hcm,_⟩
 . have:rows++srows=[]:=An (by rw [AY];exact h0);rw [this];exact .nil (FO _) (fun _=>rfl)
 . have:=RD.AIH (im:=(g.grow (.slice (some ⟨gg,0,none⟩) (rows.length+srows.length) cap) e i.size t' (xs++news)).im) (rows:=rows++srows) (size:=i.size) (b:=gg) (off:=0) (cap:=cap) (ys:=xs++news)
    hall (by simpa using hnc) hcm (by rw [hown'.1];simp) (fun j u hu=>by simp only [Gh.grow,Value.ownBlock,if_true,BF];exact hu) (fun j x Z=>by
     rw [It] at Z;have hfl:=FP rows hsz;rcases C8 j rows.flatten.length with h1|h1
     . rw [BC h1] at Z;obtain ⟨v,hv,hrd⟩:=hxs j x Z;exact ⟨v,by rw [BC (by omega)];exact hv,hrd.mono hle.im⟩
     . rw [As h1] at Z;obtain ⟨v,hv,hrd⟩:=hnr _ x Z;refine ⟨v,?_,hrd.mono hle.im⟩;rw [As (by omega),hxl,<- hfl];exact hv)
   simpa using this
variable {P:Program} {base N:Nat} {g g':Gh} {Pr:Nat->Prop} {Y σ':AH} {w0 w w':World} {lam:Nat->Option Nat} {F:Fm} {L:Lm} {a:Act}
def ATX {t:TypeId} (ht:P.underlying t=some (.slice e)) (hi:P.info? e=some i) (hz:i.zero=some z) (hzs:z.cells.size=i.size)
 (h:Bh base g lam Pr N F L Y a w0 w) (hq:SV g lam q qvl) (hmine:w.ownsRow base e i.size pvl n xs)
 (hqr:q.rows=some srows) (hss:∀r∈srows,r.length=i.size) (h63:n+srows.length<=maxLen) (hby:(n+srows.length) * i.bytes<=140737488355328):
 ∃(m:Nat) (news:List Value) (v':Value) (w':World),(Builtin.append_ #[t,t] ty #[pvl,qvl]).run P w= .ok v' w'/\m=srows.length/\news.length=m * i.size/\
  w'.ownsRow base e i.size v' (n+m) (xs++news)/\w.grownBy w' v'.ownBlock/\(∀k,v'.ownBlock=some k->pvl.ownBlock=some k\/w.heap.size<=k)/\
  (∀(j:Nat) (x:DV),srows.flatten[j]?=some x->∃v,news[j]?=some v/\RD g.im x v):=by
 have hqd:RD g.im (.sl srows) qvl:=by
  cases q with
  |d x=>cases x<;>simp only [AV.rows,AM] at hqr<;>try (cases hqr;done)
        subst hqr;cases hq with|d h=>exact h
  |Ad=>simp only [AV.rows,AM] at hqr;subst hqr;cases hq;exact .nil (FO _) (fun _=>rfl)
  |own _ _ _ _=>simp only [AV.rows,AM] at hqr;subst hqr;cases hq with|own h _ _=>exact h
  |clip _=>simp only [AV.rows,AM] at hqr;subst hqr;cases hq with|clip h=>exact h
  |_=>cases hqr
 by_cases h0:srows.length=0
 . have hnil:srows=[]:=An h0;subst hnil;cases hqd with
   |@nil ad cap hcm hcap=>
    cases ad with
    |none=>
     have:=hcap rfl;subst this;refine ⟨0,[],pvl,w,run_append_owned_none w base t ty e i i.size ht hi pvl n xs hmine,rfl,by simp,by simpa using hmine,⟨rfl,rfl,rfl,AS _,fun _ _ _=>rfl⟩,fun k hk=>.inl hk,by simp⟩
    |some ad=>
     obtain ⟨v',w',h1,h2,h3,h4⟩:=Eo (P:=P) w base t ty e i z i.size i.bytes ht hi hz rfl rfl hzs pvl n xs hmine ad 0 cap [] (by simp) (by simp) (by simp) (by simpa using h63) (by simpa using hby) h.rel.bs;exact ⟨0,[],v',w',h1,rfl,by simp,h2,h3,h4,by simp⟩
   |sl hc hm hs hi hr=>
    obtain ⟨v',w',h1,h2,h3,h4⟩:=Eo (P:=P) w base t ty e i z i.size i.bytes ht ‹_› hz rfl rfl hzs pvl n xs hmine _ 0 _ [] (by simp) (by simp) (by simp) (by simpa using h63) (by simpa using hby) h.rel.bs;exact ⟨0,[],v',w',h1,rfl,by simp,h2,h3,h4,by simp⟩
 . obtain ⟨ad,cap,rfl,_⟩:=hqd.OE;have hpos:0 < srows.length:=Nat.pos_of_ne_zero h0
   obtain ⟨b,off,rfl⟩:∃b off,ad=some ⟨b,off,none⟩:=by
    generalize hvv:(Value.slice ad srows.length cap)=vv at hqd;cases hqd with
    |nil=>simp at hpos
    |sl=>cases hvv;exact ⟨_,_,rfl⟩
   obtain ⟨news,hnl,_,hni,hnr⟩:=RD.cellsOf hss hqd hpos
   have hones:∀u∈news,u.oneCell'=true:=by
    intro u hu;obtain ⟨j,hj,rfl⟩:=Bv hu;have hjf:j < srows.flatten.length:=by rw [FP srows hss,<- hnl];exact hj
    obtain ⟨v,hv,hrd⟩:=hnr j srows.flatten[j] (by simp);have:v=news[j]:=by rw [Ay hj] at hv;cases hv;rfl
    rw [<- this];exact hrd.one
   obtain ⟨v',w',h1,h2,h3,h4⟩:=Eo (P:=P) w base t ty e i z i.size i.bytes ht hi hz rfl rfl hzs pvl n xs hmine ⟨b,off,none⟩ srows.length cap news hnl
    (fun j u hu=>by rw [Addr.add_lit];exact h.rel.im _ _ _ (hni j u hu)) hones h63 hby h.rel.bs
   exact ⟨srows.length,news,v',w',h1,rfl,hnl,h2,h3,h4,hnr⟩
def Rel.AYR (h:Rel base g Pr Y w0 w) {i:Nat} (hi:Y.blk i=some cs) (hm:g.mu i=some b):Rel base g (fun x=>Pr x\/x=b) (Y.Cs i) w0 w:=by
 obtain ⟨b0,hb0,ho⟩:=h.shr i cs hi;rw [hm] at hb0;cases hb0;have hlt:=h.TB hi hm
 have hn:∀j,(Y.Cs i).blk j≠none->j≠i/\Y.blk j≠none:=fun j hj=>by
  by_cases e:j=i
  . subst e;simp [AH.Cs] at hj
  . exact ⟨e,by simpa [AH.Cs,e] using hj⟩
 have hbi:Y.blk i≠none:=by rw [hi];simp
 refine ⟨h.im,fun j cs' hj=>?_,fun j k b' hj hk=>h.inj j k b' (hn j hj).2 (hn k hk).2,fun t ht=>?_,fun x Z=>?_,h.bel,h.bs,h.fin,h.st⟩
 . have hji:=(hn j (by rw [hj];simp)).1;have hj':Y.blk j=some cs':=by simpa [AH.Cs,hji] using hj
   obtain ⟨b',hb',ho'⟩:=h.shr j cs' hj';refine ⟨b',hb',ho'.ok,ho'.row,ho'.low,ho'.im,fun hp=>?_⟩;rcases hp with hp|hp
   . exact ho'.pr hp
   . exact hji (h.inj j i b (by rw [hj'];simp) hbi (hp ▸ hb') hm)
 . have ht':Y.tok t=true:=ht;obtain ⟨v,e,size,n,xs,hmt,hown,hrest⟩:=(h.tok t ht').row;refine ⟨v,e,size,n,xs,hmt,hown,fun b' hvb=>?_⟩;obtain ⟨h1,h2,h3,h4⟩:=hrest b' hvb;refine ⟨h1,fun hp=>?_,fun j hj=>h3 j (hn j hj).2,h4⟩;rcases hp with hp|hp
   . exact h2 hp
   . exact h3 i hbi (hp ▸ hm)
 . rcases Z with Z|Z
   . exact h.pr x Z
   . subst Z;exact ⟨hlt,ho.im⟩
def OI (Y:AH) (e size:Nat):AV->Option (Nat×List AV×AH)
 | .Ad=>some (0,[],Y)
 | .ms i n s e'=>if s=size/\e'=e then (Y.blk i).bind fun cs=>if cs.length=n * size then some (n,cs,Y.Cs i) else none else none
 |_=>none
def E9 (srows:List (List DV)):List AV:=srows.flatten.map AV.d
def AFZ {t:TypeId} (ht:P.underlying t=some (.slice e)) (hi:P.info? e=some i) (hz:i.zero=some z) (hzs:z.cells.size=i.size)
 (h:Bh base g lam Pr N F L Y a w0 w) (hp:SV g lam p pvl) (hq:SV g lam q qvl) 
 (hpa:OI Y e i.size p=some (n,cs,σ1)) (hqr:q.rows=some srows) (hss:∀r∈srows,r.length=i.size) (hne:srows≠[])
 (h63:n+srows.length<=maxLen) (hby:(n+srows.length) * i.bytes<=140737488355328):
 ∃x g' w' j,(Builtin.append_ #[t,t] ty #[pvl,qvl]).run P w= .ok x w'/\g.le g'/\KP Pr w w'/\Y.blk j=none/\VR g' (.ms j (n+srows.length) i.size e) x/\
  Bh base g' lam Pr N F L (σ1.AL j (cs++E9 srows)) a w0 w':=by
 obtain ⟨j,hj,htau,hblk,htok⟩:=h.rel.fresh
 have hstart:∃(b0:Nat->Prop) (xs:List Value),w.ownsRow base e i.size pvl n xs/\cs.length=n * i.size/\VRs g cs xs/\Ax cs=true/\(∀b,pvl.ownBlock=some b->b0 b)/\(∀b,b0 b->pvl.ownBlock=some b)/\
  Rel base g (fun x=>(Pr x\/∃k,lam k=some x)\/b0 x) σ1 w0 w/\(∀b,b0 b->(∀o,g.im b o=none)/\¬(Pr b\/∃k,lam k=some b)):=by
  unfold OI at hpa;split at hpa
  . cases hpa;cases hp;refine ⟨fun _=>False,[],World.ownsRow_nil w base e i.size,by simp,.nil,rfl,fun b hb=>by simp [Value.ownBlock] at hb,fun b hb=>hb.elim,?_,fun b hb=>hb.elim⟩
    exact h.rel.grow (AS _) (fun _ _ _=>rfl) (Below.refl _ _) (fun b hb=>by
     rcases hb with hb|hb
     . exact ⟨(h.rel.pr b hb).1,.inl hb⟩
     . exact hb.elim)
  . rename_i i0 n0 s0 e0;split at hpa
    case isFalse=>cases hpa
    rename_i hcond;obtain ⟨rfl,rfl⟩:=hcond;simp only [AB] at hpa;obtain ⟨cs0,hcs0,hpa⟩:=hpa;split at hpa
    case isFalse=>cases hpa
    rename_i hlen;cases hpa;cases hp with
    |@ms _ _ _ _ b cap hm hr hn hmx=>
     obtain ⟨b',hb',ho⟩:=h.rel.shr i0 cs hcs0;rw [hm] at hb';cases hb';obtain ⟨vs,ty',hv,hl,hrt,hvr⟩:=ho.row;obtain ⟨hsz,hty⟩:=hrt _ hr;simp only at hsz hty;subst hty;refine ⟨fun x=>x=b,vs.toList.take cs.length,⟨by simp;omega,.inr ⟨b,cap,vs,rfl,ho.low,hv,hn,hmx,hsz,by rw [hlen]⟩⟩,hlen,hvr,ho.ok,fun b2 hb2=>by simp [Value.ownBlock] at hb2;exact hb2.symm,fun b2 hb2=>by simp [Value.ownBlock,hb2],h.rel.AYR hcs0 hm,fun b2 hb2=>?_⟩;subst hb2;exact ⟨ho.im,ho.pr⟩
  . cases hpa
 obtain ⟨b0,xs,hown,hcl,hvr,hcok,hb1,hb2,hrel1,hb3⟩:=hstart;obtain ⟨m,news,v',w',hrun,rfl,hnl,hown',hgr,hwh,hnr⟩:=ATX ht hi hz hzs h hq hown hqr hss h63 hby
 have hsame:∀b,b < w.heap.size->v'.ownBlock≠some b->w'.heap[b]?=w.heap[b]?:=fun b hb hne=>hgr.block b hb (A6 hne);have hbel:Below base w w':=⟨hgr.os,hgr.tape,hgr.output,hgr.size,fun k hk=>hsame k (by have:=h.rel.bs;omega) fun e'=>by have:=(hown'.lt k e').1;omega⟩
 have hrel2:Rel base g (fun x=>Pr x\/∃k,lam k=some x) σ1 w0 w':=
  hrel1.grow hgr.size (fun b hb hnp=>hsame b hb (fun e'=>by
   rcases hwh b e' with h1|h1
   . exact hnp (.inr (hb1 b h1))
   . omega)) hbel (fun b hb=>⟨by have:=(h.rel.pr b hb).1;have:=hgr.size;omega,.inl (.inl hb)⟩)
 -- the new row
 have hsome:∃gg cap cur,v'= .slice (some ⟨gg,0,none⟩) (n+srows.length) cap/\base<=gg/\w'.heap[gg]?=some (.cells cur e (0,0))/\n+srows.length<=cap/\cap<=maxLen/\cur.size=cap * i.size/\cur.toList.take ((n+srows.length) * i.size)=xs++news:=by
  rcases hown'.2 with ⟨rfl,h0⟩|hh
  . exact absurd (An (show srows.length=0 by omega)) hne
  . exact hh
 obtain ⟨gg,cap,cur,rfl,hbg,hheap,hnc,hcm,hcur,htake⟩:=hsome
 have hwh':b0 gg\/w.heap.size<=gg:=by
  rcases hwh gg rfl with h1|h1
  . exact .inl (hb1 gg h1)
  . exact .inr h1
 have hpr:¬(Pr gg\/∃k,lam k=some gg):=by
  rcases hwh' with h1|h1
  . exact (hb3 gg h1).2
  . intro hp2;have:=(h.rel.pr gg hp2).1;omega
 have him:∀o,g.im gg o=none:=by
  rcases hwh' with h1|h1
  . exact (hb3 gg h1).1
  . intro o;cases hi':g.im gg o with
    |none=>rfl
    |some v=>have:=h.rel.YK hi';omega
 have hxl:xs.length=n * i.size:=hown.1
 have hcl2:(cs++E9 srows).length=(n+srows.length) * i.size:=by
  rw [AY,hcl,E9,AA,FP srows hss,Bs]
 have hvrs:VRs g (cs++E9 srows) (xs++news):=by
  refine hvr.append (VRs.So _ _ (by rw [hnl,E9,AA,FP srows hss]) (fun q c v hc hv=>?_));rw [E9,Am,AK] at hc;obtain ⟨x,Z,rfl⟩:=hc;obtain ⟨v2,hv2,hr2⟩:=hnr q x Z;rw [hv] at hv2;cases hv2;exact .d hr2
 have hcok2:Ax (cs++E9 srows)=true:=by
  simp only [Gm,hcok,Bk,E9];exact Xb _
 have hle:=Gh.N1 (g:=g) (i:=j) (b:=gg) (rt:=some (cap * i.size,e)) hj
 have hrel3:=hrel2.ABQ (i:=j) (b:=gg) (rt:=some (cap * i.size,e)) hj hbg (fun q hq' hm=>?_) him (fun t2 v2 e2 s2 ht2 hm2 hvb=>?_) (cs:=cs++E9 srows) hheap (by rw [hcl2,hcur];exact Bi _ hnc)
  (fun t ht=>by cases ht;exact ⟨hcur,rfl⟩) (by rw [hcl2,htake];exact hvrs) hcok2 hpr
 . refine ⟨_,g.share j gg (some (cap * i.size,e)),w',j,hrun,hle,⟨hgr.size,fun b hb=>hsame b (h.rel.pr b (.inl hb)).1 (fun e'=>by simp only [Value.ownBlock,AM] at e';exact hpr (e' ▸ .inl hb))⟩,hblk,
    .ms (by simp [Gh.share]) (by simp [Gh.share]) hnc hcm,?_⟩
   exact h.step hle (fun k b hb=>hsame b (h.Kx hb) (fun e'=>by simp only [Value.ownBlock,AM] at e';exact hpr (.inr ⟨k,e' ▸ hb⟩))) hrel3
 . rcases hwh' with h1|h1
   . cases hc:σ1.blk q with
     |none=>exact hq' hc
     |some c=>
      obtain ⟨b2,hb2',ho2⟩:=hrel1.shr q c hc;rw [hm] at hb2';cases hb2';exact ho2.pr (.inr h1)
   . cases hc:σ1.blk q with
     |none=>exact hq' hc
     |some c=>have:=hrel1.TB hc hm;omega
 . obtain ⟨v3,e3,s3,n3,xs3,hm3,hown3,hrest3⟩:=(hrel1.tok t2 ht2).row;rw [hm2] at hm3;cases hm3;rcases hwh' with h1|h1
   . exact (hrest3 gg hvb).2.1 (.inr h1)
   . have:=(hown3.lt gg hvb).2;omega
def AZI (Y:AH):AV->AV->Option (Nat×Nat×Nat×List AV×AH)
 | .ms i n s e,h=>(Zu h).bind fun k=>(Y.blk i).bind fun cs=>if k<=n/\cs.length=n * s then some (k,s,e,cs.take (k * s),Y.Cs i) else none
 |_,_=>none
def AOT {t e0:TypeId} (ht:P.underlying t=some (.slice e0)) (hsz:szT P e0=some sz) (h:Bh base g lam Pr N F L Y a w0 w) (hp:SV g lam p pvl) (hq:SV g lam q qvl)
 {k s e:Nat} (hv:AZI Y p q=some (k,s,e,cs,σ1)):
 ∃x g' j,(Instr.sliceAt t pvl none (some qvl) none).run P w= .ok x w/\g.le g'/\Y.blk j=none/\VR g' (.ms j k s e) x/\Bh base g' lam Pr N F L (σ1.AL j cs) a w0 w:=by
 obtain ⟨j,hj,htau,hblk,htok⟩:=h.rel.fresh;unfold AZI at hv;split at hv
 case h_2=>cases hv
 rename_i i n s0 e1;simp only [AB] at hv;obtain ⟨k0,hk,cs0,hcs0,hv⟩:=hv;split at hv
 case isFalse=>cases hv
 rename_i hcond;cases hv;obtain ⟨kk,rfl⟩:=IK hk hq;cases hp with
 |@ms _ _ _ _ b cap hm hr hn hmx=>
  obtain ⟨b',hb',ho⟩:=h.rel.shr i cs0 hcs0;rw [hm] at hb';cases hb';obtain ⟨vs,ty',hv,hl,hrt,hvr⟩:=ho.row;have hrt':=hrt _ hr;have hkn:k * s<=n * s:=Bi _ hcond.1
  have hrun:(Instr.sliceAt t (.slice (some ⟨b,0,none⟩) n cap) none (some (.int kk k)) none).run P w= .ok (.slice (some ⟨b,0,none⟩) k cap) w:=by
   have hb1:(Instr.sliceBounds true n cap none (some (.int kk k)) none).run P w= .ok (0,k,cap) w:=by
    simp [Instr.sliceBounds,Ix (Af hcond.1 hn)]
   simp [Instr.sliceAt,Instr.slice,B4 ht,hb1,Ew hsz,Addr.add_lit]
  have hrel1:=h.rel.AYR hcs0 hm
  have hrel2:Rel base g (fun x=>Pr x\/∃k,lam k=some x) (Y.Cs i) w0 w:=
   hrel1.grow (AS _) (fun _ _ _=>rfl) (Below.refl _ _) (fun b hb=>⟨(h.rel.pr b hb).1,.inl (.inl hb)⟩)
  have hle:=Gh.N1 (g:=g) (i:=j) (b:=b) (rt:=some (cap * s,e)) hj;have hlen:(cs0.take (k * s)).length=k * s:=by simp;omega
  have hrel3:=hrel2.ABQ (i:=j) (b:=b) (rt:=some (cap * s,e)) hj ho.low (fun q hq' hm'=>?_) ho.im (fun t2 v2 e2 s2 ht2 hm2 hvb=>?_) (cs:=cs0.take (k * s)) hv (by omega) (fun t ht=>by cases ht;exact hrt')
   (by rw [hlen];have:=hvr.take (k * s);rwa [List.take_take,FN (by omega)] at this) (Ob _ ho.ok) ho.pr
  . exact ⟨_,g.share j b (some (cap * s,e)),j,hrun,hle,hblk,.ms (by simp [Gh.share]) (by simp [Gh.share]) (Af hcond.1 hn) hmx,h.step hle (fun _ _ _=>rfl) hrel3⟩
  . cases hc:(Y.Cs i).blk q with
    |none=>exact hq' hc
    |some c=>
     obtain ⟨b2,hb2',ho2⟩:=hrel1.shr q c hc;rw [hm'] at hb2';cases hb2';exact ho2.pr (.inr rfl)
  . obtain ⟨v3,e3,s3,n3,xs3,hm3,hown3,hrest3⟩:=(hrel1.tok t2 ht2).row;rw [hm2] at hm3;cases hm3;exact (hrest3 b hvb).2.1 (.inr rfl)
section
variable {P:Program} (w:World)
def V8 (base:Nat) (t u ty e:TypeId) (i:TypeInfo) (ht:P.underlying t=some (.slice e)) (hu:P.underlying u=some .string) (hi:P.info? e=some i) (hz:i.zero=some (.int .u8 0))
 (hsize:i.size=1) (hby:i.bytes=1) (v:Value) (n:Nat) (xs:List Value) (hown:w.ownsRow base e 1 v n xs) (s:ByteArray)
 (h63:n+s.size<=maxLen) (hbytes:n+s.size<=140737488355328) (hbase:base<=w.heap.size):
 ∃v' w',(Builtin.append_ #[t,u] ty #[v,.string s]).run P w= .ok v' w'/\w'.ownsRow base e 1 v' (n+s.size) (xs++Lib.strCells s)/\w.grownBy w' v'.ownBlock/\
  (∀k,v'.ownBlock=some k->v.ownBlock=some k\/w.heap.size<=k):=by
 have hsmall:n+s.size<=9223372036854775807:=by simp only [maxLen] at h63;omega
 have hxl:xs.length=n:=by simpa using hown.1
 have hlen:(xs++Lib.strCells s).length=(n+s.size) * 1:=by rw [AY,hxl,Lib.strCells_length,A9]
 have grown:∀(old:Nat),old < n+s.size->∀(row:Option Nat),
  (w.drew.alloc (.cells (xs.toArray++(Lib.strCells s).toArray++Builtin.zeroCells (Value.int .u8 0).cells (grownCap w (n+s.size) old e - (n+s.size))) e)).ownsRow base e 1
    (.slice (some ⟨w.heap.size,0,none⟩) (n+s.size) (grownCap w (n+s.size) old e)) (n+s.size) (xs++Lib.strCells s)/\
  w.grownBy (w.drew.alloc (.cells (xs.toArray++(Lib.strCells s).toArray++Builtin.zeroCells (Value.int .u8 0).cells (grownCap w (n+s.size) old e - (n+s.size))) e)) row:=by
  intro old ho row;have hge:=grownCap_ge w (n+s.size) old e;have hcm:grownCap w (n+s.size) old e<=maxLen:=grownCap_le_maxLen w (n+s.size) old e h63;refine ⟨⟨hlen,.inr ⟨w.heap.size,_,_,rfl,hbase,heap_alloc_new w.drew _,hge,hcm,?_,?_⟩⟩,⟨rfl,rfl,rfl,by simp,fun k hk _=>heap_alloc_old w.drew _ k hk⟩⟩
  . have hz1:(Value.int IntKind.u8 0).cells.size=1:=rfl;simp only [Array.size_append,TI,size_zeroCells,hz1,hxl,Lib.strCells_length];omega
  . simp only [Array.toList_append,Aq];rw [<- Aq,<- hlen];exact List.take_left
 rcases hown.2 with ⟨rfl,rfl⟩|⟨g,cap,cur,rfl,hbg,hg,hnc,hcm,hcs,htake⟩
 . have Z:xs=[]:=An hxl;subst Z;by_cases hm:s.size=0
   . have hn:Lib.strCells s=[]:=An (by rw [Lib.strCells_length];exact hm);refine ⟨.slice none 0 0,w,?_,by rw [hm,hn];exact World.ownsRow_nil w base e 1,⟨rfl,rfl,rfl,AS _,fun _ _ _=>rfl⟩,by simp [Value.ownBlock]⟩;have hf:=Lib.run_firstCells_string (P:=P) w 1 s;rw [hm] at hf;simp [Builtin.append_,run_underlying ht,run_underlying hu,sizeOf,typeInfo,hi,hsize,Builtin.lenOf,hm,hf]
   . have hr:=run_append_nil_string (P:=P) w t u ty e i (.int .u8 0) ht hu hi hz s (by omega) (by omega) (by rw [hby];omega);have hgr:=grown 0 (by omega) (some w.heap.size);simp only [BF,Ag,Array.empty_append] at hgr ⊢
     have e1:(s.data.map fun b=>Value.int .u8 b.toNat)=(Lib.strCells s).toArray:=by
      apply Array.ext';simp [Lib.strCells]
     rw [e1] at hr;exact ⟨_,_,hr,hgr.1,hgr.2,fun k hk=>.inr (by simp [Value.ownBlock] at hk;omega)⟩
 . by_cases hroom:n+s.size<=cap
   . have hcs':cur.size=cap:=by simpa using hcs
     have hr:=Lib.run_append_room_string (P:=P) w t u ty e i ht hu hi hsize g n cap cur hg s hroom (by omega);refine ⟨_,_,hr,⟨hlen,.inr ⟨g,cap,_,rfl,hbg,setRow_heap w g cur _ e _ hg,hroom,hcm,?_,?_⟩⟩,⟨rfl,rfl,rfl,by simp,fun k _ hk=>setRow_other w g k _ (fun e=>hk (by simp [Value.ownBlock,e]))⟩,fun k hk=>.inl hk⟩
     . simp only [TI,AY,B5,Df,Ir,Lib.strCells_length];omega
     . have ht':cur.toList.take n=xs:=by simpa using htake
       rw [ht',<- hlen];exact List.take_left
   . have holds:∀j u,xs[j]?=some u->w.cell? ((⟨g,0,none⟩:Addr).add j)=some u:=hown.cells (g:=g) rfl;have hr:=Lib.run_append_grow_string (P:=P) w t u ty e i (.int .u8 0) ht hu hi hz ⟨g,0,none⟩ n cap xs (by rw [hsize];simpa using hxl) holds s (by omega) (by omega) (by rw [hby];exact growslice_fits (by omega) (by omega));have hgr:=grown cap (by omega) (some w.heap.size);exact ⟨_,_,hr,hgr.1,hgr.2,fun k hk=>.inr (by simp [Value.ownBlock] at hk;omega)⟩
end
variable {P:Program} {base N:Nat} {g g':Gh} {Pr:Nat->Prop} {Y σ':AH} {w0 w w':World} {lam:Nat->Option Nat} {F:Fm} {L:Lm} {a:Act}
def mI (es:List (Int×Int)):MEs:=es.map fun p=>(.inl p.1,p.2)
def mK (ks:List (Int×List UInt8)):MEs:=ks.map fun k=>(.inr k,1)
def ExR (Y:AH) (R:AV->AH->Prop):EK->List AV->Prop
 | .wZ ne,[v]=>match AA4 v with
  |some b=>R (.d (.bool (b != ne))) Y
  |none=>v.rows=some []/\∀b,R (.d (.bool b)) Y
 | .apps e,[s,.d (.str x)]=>∃rows σ1,O2 Y e 1 s=some (rows,σ1)/\rows.length+x.length<=140737488355328/\∀t,Y.tok t=false->R (.own t e 1 (rows++Ba x)) (σ1.Bq t)
 | .alt t z,[]=>Ax z=true/\∀i,(Y.blk i=none/\Y.bt i=none)->R (.gp i 0) ((Y.AL i z).Bl i (z.length,t))
 | .ACF e s,[.ms i n s1 e1,.mv i2 o2 n2 s2 e2]=>(i2=i/\s1=s/\s2=s/\e1=e)/\∃cs,Y.blk i=some cs/\(n+n2) * s<=cs.length/\(o2+n2) * s<=cs.length/\R (.ms i (n+n2) s e) (Y.AL i (cs.take (n * s)++(cs.drop (o2 * s)).take (n2 * s)))
 | .ACF e s,[p,.ms i2 n2 s2 e2]=>s2=s/\∃cs2 n cs σ1,Y.blk i2=some cs2/\cs2.length=n2 * s/\n2≠0/\n+n2<=1000000000/\OI Y e s p=some (n,cs,σ1)/\∀j,Y.blk j=none->R (.ms j (n+n2) s e) (σ1.AL j (cs++cs2))
 | .AJG e,[.bp t e' s,.d (.int .i64 n)]=>(e'=e/\n=s.length)/\s≠[]/\Y.tok t=true/\R (.d (.str s)) (Y.CP t)
 | .mmk,[]=>∀t,Y.tok t=false->R (.om t []) (Y.Bq t)
 | .AIA,[.om t es]=>(Y.tok t=true/\es.length<=1000000000)/\R (.d (.int .i64 es.length)) Y
 | .ANK,[.om t es,.d (.int .i64 n)]=>Y.tok t=true/\∃es0,es=mI es0/\∃x,(0<=x/\x<=1000000000)/\es0.lookup n=some x/\R (.tup [.d (.int .i64 x),.d (.bool true)]) Y\/es0.lookup n=none/\R (.tup [.d (.int .i64 0),.d (.bool false)]) Y
 | .AA3,[.om t es,.agg [.d (.int .i64 n),.d (.str s)]]=>Y.tok t=true/\∃ks,es=mK ks/\R (.d (.bool (ks.contains (n,s)))) Y
 |_,_=>False
def ExR.mono {R':AV->AH->Prop}:∀ {k:EK} {args:List AV},ExR Y R k args->(∀v σ',(∀q,v.CL q=false)->R v σ'->R' v σ')->ExR Y R' k args:=by
 intro k args h hR;unfold ExR at h ⊢;split at h
 . split at h
   . exact hR _ _ (fun _=>rfl) h
   . exact ⟨h.1,fun b=>hR _ _ (fun _=>rfl) (h.2 b)⟩
 . obtain ⟨rows,σ1,h1,h2,h3⟩:=h;exact ⟨rows,σ1,h1,h2,fun t ht=>hR _ _ (fun _=>rfl) (h3 t ht)⟩
 . exact ⟨h.1,fun i hi=>hR _ _ (fun _=>rfl) (h.2 i hi)⟩
 . obtain ⟨h1,cs,h2,h3,h4,h5⟩:=h;exact ⟨h1,cs,h2,h3,h4,hR _ _ (fun _=>rfl) h5⟩
 . obtain ⟨h1,cs2,n,cs,σ1,h2,h3,h4,h5,h6,h7⟩:=h;exact ⟨h1,cs2,n,cs,σ1,h2,h3,h4,h5,h6,fun j hj=>hR _ _ (fun _=>rfl) (h7 j hj)⟩
 . exact ⟨h.1,h.2.1,h.2.2.1,hR _ _ (fun _=>rfl) h.2.2.2⟩
 . exact fun t ht=>hR _ _ (fun _=>rfl) (h t ht)
 . exact ⟨h.1,hR _ _ (fun _=>rfl) h.2⟩
 . obtain ⟨h1,es0,h0,x,h2⟩:=h;exact ⟨h1,es0,h0,x,h2.imp (fun h=>⟨h.1,h.2.1,hR _ _ (fun _=>rfl) h.2.2⟩) (fun h=>⟨h.1,hR _ _ (fun _=>rfl) h.2⟩)⟩
 . obtain ⟨h1,ks,h0,h2⟩:=h;exact ⟨h1,ks,h0,hR _ _ (fun _=>rfl) h2⟩
 . exact h.elim
def J0 (P:Program) (m:Sem Value) (base:Nat) (g:Gh) (lam:Nat->Option Nat) (Pr:Nat->Prop) (N:Nat) (F:Fm) (L:Lm) (a:Act) (w0 w:World) (R:AV->AH->Prop):Prop:=
 ∃x g' w' v σ',m.run P w= .ok x w'/\g.le g'/\KP Pr w w'/\VR g' v x/\Bh base g' lam Pr N F L σ' a w0 w'/\R v σ'
def tV (Z:VR g x v) {rows:List (List DV)} (hr:x.rows=some rows):∃ad cap,v= .slice ad rows.length cap:=by
 have h:RD g.im (.sl rows) v:=by
  cases x with
  |d y=>cases y<;>simp only [AV.rows,AM] at hr<;>try (cases hr;done)
        subst hr;cases Z with|d h=>exact h
  |Ad=>simp only [AV.rows,AM] at hr;subst hr;cases Z;exact .nil (FO _) (fun _=>rfl)
  |own _ _ _ _=>simp only [AV.rows,AM] at hr;subst hr;cases Z with|own h _ _=>exact h
  |clip _=>simp only [AV.rows,AM] at hr;subst hr;cases Z with|clip h=>exact h
  |_=>cases hr
 obtain ⟨ad,cap,h,_⟩:=h.OE;exact ⟨ad,cap,h⟩
def AIE (Z:VR g x v) {b:Bool} (hb:AA4 x=some b):∃ad n cap,v= .slice ad n cap/\ad.isNone=b:=by
 cases x<;>simp only [AA4] at hb<;>try (cases hb;done)
 . rename_i y;cases y<;>try (cases hb;done)
   rename_i rows;cases rows with
   |nil=>cases hb
   |cons r rows=>
    cases hb;cases Z with
    |d h=>cases h with|sl=>exact ⟨_,_,_,rfl,rfl⟩
 . cases hb;cases Z;exact ⟨_,_,_,rfl,rfl⟩
 . rename_i rows;cases rows with
   |nil=>cases hb
   |cons r rows=>
    cases hb;cases Z with
    |own h=>cases h with|sl=>exact ⟨_,_,_,rfl,rfl⟩
 . rename_i rows;cases rows with
   |nil=>cases hb
   |cons r rows=>
    cases hb;cases Z with
    |clip h=>
     generalize hv:Value.slice _ _ _=vv at h ⊢;cases h with|sl=>exact ⟨_,_,_,rfl,rfl⟩
 . cases hb;cases Z;exact ⟨_,_,_,rfl,rfl⟩
 . cases hb;cases Z;exact ⟨_,_,_,rfl,rfl⟩
def tW {t:TypeId} (ht:P.underlying t=some (.slice e)) (h:Bh base g lam Pr N F L Y a w0 w) {ne:Bool} (Z:VR g x v) (hr:ExR Y R (.wZ ne) [x]) (y z:Operand):
 J0 P (do eqGuard (if ne then .neq else .eql) t y z v (.slice none 0 0);binOp (if ne then .neq else .eql) t v (.slice none 0 0)) base g lam Pr N F L a w0 w R:=by
 have hrun:∀ad n cap,v= .slice ad n cap->((do eqGuard (if ne then .neq else .eql) t y z v (.slice none 0 0);binOp (if ne then .neq else .eql) t v (.slice none 0 0):Sem Value)).run P w= .ok (.bool (ad.isNone != ne)) w:=by
  rintro ad n cap rfl
  have heq:∀d,(Op.equalIn (d+1) t (.slice ad n cap) (.slice none 0 0)).run P w= .ok ad.isNone w:=fun d=>by
   cases ad<;>simp [Op.equalIn,run_underlying ht]
  have heq2:(Op.equal t (.slice ad n cap) (.slice none 0 0)).run P w= .ok ad.isNone w:=heq 9999;have hg:(eqGuard (if ne then .neq else .eql) t y z (.slice ad n cap) (.slice none 0 0)).run P w= .ok () w:=by cases ne<;>simp [eqGuard]
  simp only [Sem.run_bind,hg,Result.andThen_ok];cases ne
  . simp only [binOp,A1,if_false];simp [heq2]
  . simp only [binOp,if_true];simp [heq2]
 simp only [ExR] at hr;cases hn:AA4 x with
 |some b=>
  rw [hn] at hr;obtain ⟨ad,n,cap,hv,hb⟩:=AIE Z hn;exact ⟨_,g,w,_,Y,hrun ad n cap hv,Gh.le_refl g,KP.refl Pr w,.d .bool,h,by rw [hb];exact hr⟩
 |none=>
  rw [hn] at hr;obtain ⟨ad,cap,hv⟩:=tV Z hr.1;exact ⟨_,g,w,_,Y,hrun ad _ cap hv,Gh.le_refl g,KP.refl Pr w,.d .bool,h,hr.2 _⟩
def eG (s:List UInt8):∀r∈Ba s,r.length=1:=by
 intro r hr;simp only [Ba,B8] at hr;obtain ⟨b,_,rfl⟩:=hr;rfl
def aL (s:List UInt8):(Ba s).flatten=s.map fun b=>DV.int .u8 b.toNat:=by
 induction s with
 |nil=>rfl
 |cons b s ih=>
  have ih':(List.map (fun b:UInt8=>[DV.int .u8 b.toNat]) s).flatten=List.map (fun b=>DV.int .u8 b.toNat) s:=ih;simp [Ba,ih']
def AF0 {t u:TypeId} (ht:P.underlying t=some (.slice e)) (hu:P.underlying u=some .string) (hi:P.info? e=some i) (hz:i.zero=some (.int .u8 0)) (hsize:i.size=1) (hby:i.bytes=1)
 (h:Bh base g lam Pr N F L Y a w0 w) (hp:VR g p pvl) (hq:VR g q qvl) (hr:ExR Y R (.apps e) [p,q]):
 J0 P (Builtin.append_ #[t,u] ty #[pvl,qvl]) base g lam Pr N F L a w0 w R:=by
 cases q<;>try (exact (show False from hr).elim)
 rename_i y;cases y<;>try (exact (show False from hr).elim)
 rename_i s;obtain ⟨rows,σ1,hpa,hlen,hk⟩:=hr;cases hq with|d hq=>cases hq with|str hsl=>
 obtain ⟨t',_,htau,_,htok⟩:=h.rel.fresh
 have hmine:∃xs,uU base g (fun b=>Pr b\/∃k,lam k=some b) σ1 w e 1 pvl rows.length xs/\σ1.le Y/\(∀r∈rows,r.length=1)/\
  (∀(j:Nat) (x:DV),rows.flatten[j]?=some x->∃v,xs[j]?=some v/\RD g.im x v):=by
  unfold O2 at hpa;split at hpa
  . cases hpa;cases hp;exact ⟨[],uU.nil _ _ _ _ _ _ _,AH.le_refl _,by simp,by simp⟩
  . split at hpa
    . rename_i hcond;obtain ⟨rfl,rfl,htk⟩:=hcond;cases hpa;cases hp with
      |own hrd htau2 hsz=>
       obtain ⟨n,xs,hm⟩:=h.rel.AY0 htk htau2 (by cases hrd<;>rfl);have hn:=AKR hm.1 hrd;subst hn;refine ⟨xs,hm,AH.ZF _ _,hsz,fun j x Z=>?_⟩;have hpos:0 < rows.length:=by cases rows with|nil=>simp at Z|cons=>simp
       rcases hm.1.2 with ⟨_,h0⟩|⟨gg,cap,cur,rfl,hbg,hgg,_⟩
       . omega
       obtain ⟨vs,hvl,_,hvi,hvr⟩:=RD.cellsOf hsz hrd hpos;obtain ⟨v,hv,hrdv⟩:=hvr j x Z;refine ⟨v,?_,hrdv⟩;have hlt:j < xs.length:=by rw [hm.1.1,<- hvl];exact (AE.1 hv).1
       have h1:=h.rel.im _ _ _ (hvi j v hv);have h2:=hm.1.cells (g:=gg) rfl j xs[j] (by simp [hlt]);rw [Addr.add_lit,BF] at h2;rw [BF] at h1;rw [h1] at h2;cases h2;simp [hlt]
    . cases hpa
  . cases hpa
 obtain ⟨xs,hmine,hle1,hsz,hxs⟩:=hmine;have hssz:ByteArray.size ⟨s.toArray⟩=s.length:=by simp [ByteArray.size]
 have hcell:Lib.strCells ⟨s.toArray⟩=s.map fun b=>Value.int .u8 b.toNat:=by simp [Lib.strCells]
 obtain ⟨v',w',hrun,hown',hgr,hwh⟩:=V8 (P:=P) w base t u ty e i ht hu hi hz hsize hby pvl rows.length xs hmine.1 ⟨s.toArray⟩ (by rw [hssz];simp only [maxLen];omega) (by rw [hssz];exact hlen) h.rel.bs;rw [hssz,hcell] at hown';have hrel1:=h.rel.less hle1;have hle:=hrel1.pE (news:=s.map fun b=>Value.int .u8 b.toNat) (e:=e) (size:=1) (t':=t') hmine hwh htau;have hrel':=hrel1.AYO (t':=t') hmine hown' hgr hwh htau
 have hnpr:∀b,v'.ownBlock=some b->¬(Pr b\/∃k,lam k=some b):=fun b hb=>by
  rcases hwh b hb with hvb|hge
  . exact (hmine.2 b hvb).2.1
  . intro hp;have:=(h.rel.pr b hp).1;omega
 refine ⟨v',g.grow v' e 1 t' (xs++s.map fun b=>Value.int .u8 b.toNat),w',.own t' e 1 (rows++Ba s),σ1.Bq t',hrun,hle,⟨hgr.size,fun b hb=>hgr.block b (h.rel.pr b (.inl hb)).1 (fun e'=>hnpr b e'.symm (.inl hb))⟩,?_,
  h.step hle (fun k b hb=>hgr.block b (h.Kx hb) (fun e'=>hnpr b e'.symm (.inr ⟨k,hb⟩))) hrel',hk t' htok⟩
 have hbl:(Ba s).length=s.length:=by simp [Ba]
 have hall:∀r∈rows++Ba s,r.length=1:=fun r hr=>by
  rcases AZ.1 hr with h1|h1
  . exact hsz r h1
  . exact eG s r h1
 refine .own ?_ (by simp [Gh.grow]) hall;have hxl:xs.length=rows.length * 1:=hmine.1.1;rcases hown'.2 with ⟨rfl,h0⟩|⟨gg,cap,cur,rfl,hbg,hgg,hnc,hcm,_⟩
 . have:rows++Ba s=[]:=An (by rw [AY,hbl];exact h0);rw [this];exact .nil (FO _) (fun _=>rfl)
 . have:=RD.AIH (im:=(g.grow (.slice (some ⟨gg,0,none⟩) (rows.length+s.length) cap) e 1 t' (xs++s.map fun b=>Value.int .u8 b.toNat)).im) (rows:=rows++Ba s) (size:=1) (b:=gg) (off:=0) (cap:=cap) (ys:=xs++s.map fun b=>Value.int .u8 b.toNat)
    hall (by simpa [hbl] using hnc) hcm (by rw [hown'.1];simp [hbl]) (fun j u hu=>by simp only [Gh.grow,Value.ownBlock,if_true,BF];exact hu) (fun j x Z=>by
     rw [It,aL] at Z;have hfl:=FP rows hsz;rcases C8 j rows.flatten.length with h1|h1
     . rw [BC h1] at Z;obtain ⟨v,hv,hrd⟩:=hxs j x Z;exact ⟨v,by rw [BC (by omega)];exact hv,hrd.mono hle.im⟩
     . rw [As h1,Am,AK] at Z;obtain ⟨b,hb,rfl⟩:=Z;refine ⟨.int .u8 b.toNat,?_,.int ?_⟩
       . rw [As (by omega),hxl,<- hfl,Am,hb];rfl
       . have:=b.toNat_lt;simp only [IntKind.has,IntKind.min,IntKind.max,IntKind.signed,IntKind.bits];constructor<;>simp<;>omega)
   simpa [hbl] using this
def Oe (w:World) (p:Addr) (n b:Nat) (h:b≠p.block):(w.freeze p n).heap[b]?=w.heap[b]?:=by
 unfold World.freeze;split
 . rfl
 . simp only [Vn];rw [if_neg (fun e=>h e.symm)]
def Xi (w:World) (p:Addr) (n:Nat):(w.freeze p n).heap.size=w.heap.size:=by
 unfold World.freeze;split
 . rfl
 . simp
def ADG (w:World) (p:Addr) (n b o:Nat):(w.freeze p n).cell? ⟨b,o,none⟩=w.cell? ⟨b,o,none⟩:=by
 by_cases hb:b=p.block
 . unfold World.freeze;split
   . rfl
   . simp only [World.cell?,Vn,hb,if_true];cases w.heap[p.block]? with
     |none=>rfl
     |some o'=>cases o'<;>rfl
 . exact World.cell?_of_block (Oe w p n b hb)
def Rel.frozen (h:Rel base g Pr Y w0 w) (hb:base<=b) (hpr:¬Pr b) (hsh:∀i,Y.blk i≠none->g.mu i≠some b) (htk:∀t v e s,Y.tok t=true->g.tau t=some (v,e,s)->Y3 v≠some b):
 Rel base g Pr Y w0 (w.freeze ⟨b,0,none⟩ n):=by
 have hot:∀k,k≠b->(w.freeze ⟨b,0,none⟩ n).heap[k]?=w.heap[k]?:=fun k hk=>Oe w _ n k hk;refine ⟨fun b' o v hv=>by rw [ADG];exact h.im b' o v hv,fun i cs hi=>?_,h.inj,fun t ht=>?_,fun k hk=>by rw [Xi];exact h.pr k hk,h.bel.trans (Lib.below_freeze (Below.refl base w) hb n),by rw [Xi];exact h.bs,h.fin,h.st⟩
 . obtain ⟨b',hm,ho⟩:=h.shr i cs hi;obtain ⟨vs,ty,hv,hl,ht,hr⟩:=ho.row;have hne:b'≠b:=fun e=>hsh i (by rw [hi];simp) (e ▸ hm);exact ⟨b',hm,ho.ok,⟨vs,ty,by rw [hot b' hne];exact hv,hl,ht,hr⟩,ho.low,ho.im,ho.pr⟩
 . obtain ⟨v,e,size,m,xs,hm,hown,hrest⟩:=(h.tok t ht).row;exact ⟨v,e,size,m,xs,hm,Pq hown fun b' hvb=>hot b' (fun e'=>htk t v e size ht hm (e' ▸ hvb)),hrest⟩
def AJH {pt it:TypeId} (hp:P.underlying pt=some (.pointer e)) (hc:P.cellsOf e=1) (h:Bh base g lam Pr N F L Y a w0 w) (hpv:VR g p pvl) (hq:VR g q qvl) 
 (hr:ExR Y R (.AJG e) [p,q]):J0 P (Builtin.unsafeString_ #[pt,it] ty #[pvl,qvl]) base g lam Pr N F L a w0 w R:=by
 cases p<;>try (exact (show False from hr).elim)
 rename_i t e' s;cases q<;>try (exact (show False from hr).elim)
 rename_i y;cases y<;>try (exact (show False from hr).elim)
 rename_i k n0;cases k<;>try (exact (show False from hr).elim)
 obtain ⟨⟨rfl,rfl⟩,hne,htk,hk⟩:=hr;cases hq with|d hq=>cases hq with|int hkn=>
 cases hpv with
 |@bp _ _ cap b off _ htau him=>
  obtain ⟨n,xs,hmine⟩:=h.rel.AY0 htk htau rfl;have hlen0:s.length≠0:=by simpa using hne
  rcases hmine.1.2 with ⟨he,_⟩|⟨gg,cap',cur,he,hbg,hgg,hnc,hcm,hcs,htake⟩
  . cases he
  . simp only [Value.slice.injEq,AM,Addr.mk.injEq] at he;obtain ⟨⟨rfl,rfl,_⟩,rfl,rfl⟩:=he;have hob:(Value.slice (some ⟨b,0,none⟩) s.length cap).ownBlock=some b:=rfl;obtain ⟨_,hpr,hsh,htk2⟩:=hmine.2 b hob;have hsl:s.length<=maxLen:=Af hnc hcm
    have hrun:=Lib.run_unsafeString_row (P:=P) w pt it ty e' hp hc b cur.size (by simp [World.shape?,hgg]) s hne (by rw [hcs];omega) (by simp only [maxLen] at hsl;omega)
     (fun j x Z=>by rw [Addr.add_lit];exact h.rel.im _ _ _ (him j x Z))
    have hrel1:=h.rel.less (AH.ZF Y t);have hrel2:=hrel1.frozen (n:=s.length) hbg hpr hsh (fun t' v' e' s' ht'=>htk2 t' v' e' s' ht');refine ⟨_,g,_,.d (.str s),Y.CP t,hrun,Gh.le_refl g,⟨by rw [Xi];exact AS _,fun b' hb'=>Oe w _ _ b' (fun (e2:b'=b)=>hpr (.inl (e2 ▸ hb')))⟩,.d (.str hsl),?_,hk⟩;exact h.step (Gh.le_refl g) (fun k b' hb'=>Oe w _ _ b' (fun (e2:b'=b)=>hpr (.inr ⟨k,e2 ▸ hb'⟩))) hrel2
def ALF {t:TypeId} {z:List AV} (hz:WK P t=some z) (h:Bh base g lam Pr N F L Y a w0 w) (hr:ExR Y R (.alt t z) []):
 ∃x w',(∀o:Oper,o.op= .alloc t->(execOp a.eval o).run P w= .ok (.value x) w')/\∃g' v σ',g.le g'/\KP Pr w w'/\VR g' v x/\Bh base g' lam Pr N F L σ' a w0 w'/\R v σ':=by
 obtain ⟨hok,hk⟩:=hr;obtain ⟨i,zv,hi,hzv,_,hvr⟩:=KU hz;refine ⟨.pointer (some ⟨w.heap.size,0,none⟩),w.alloc (.cells zv.cells t),fun o hop=>by unfold execOp;simp [hop,Instr.alloc,zeroValue,typeInfo,hi,hzv,newVar,newRow],?_⟩;have hlen:zv.cells.size=z.length:=by have:=(hvr g).length;simpa using this
 obtain ⟨j,hmu,_,hblk,_⟩:=h.rel.fresh;have hrel:=h.rel.share (rt:=some (z.length,t)) hmu (AS _) (h.rel.alloc (.cells zv.cells t)) (heap_alloc_new w _) (fun _ h=>by cases h;exact ⟨hlen,rfl⟩) (hvr g) hok (fun hp=>by have:=(h.rel.pr _ hp).1;omega);have hle:=Gh.N1 (g:=g) (i:=j) (b:=w.heap.size) (rt:=some (z.length,t)) hmu;have hf:=h.step hle (fun k b hb=>heap_alloc_old w _ b (h.Kx hb)) (hrel.Bl (i:=j) (x:=(z.length,t)) (by simp [Gh.share]))
 exact ⟨_,.gp j 0,_,hle,⟨by simp,fun b hb=>heap_alloc_old w _ b (h.rel.pr b (.inl hb)).1⟩,.gp (by simp [Gh.share]),hf,hk j ⟨hblk,by
  cases hb:Y.bt j with
  |none=>rfl
  |some x=>have:=h.rel.st.2 j x hb;rw [hmu.2] at this;cases this⟩⟩
def eI:∀ {rows:List (List DV)} {s:List UInt8},bytesOf rows=some s->rows=Ba s
 |[],s,h=>by simp only [bytesOf,AM] at h;subst h;rfl
 |r::rows,s,h=>by
  simp only [bytesOf,AB,AK] at h;obtain ⟨b,hb,s',hs,rfl⟩:=h;have:=eI hs;subst this;unfold byteOf at hb;split at hb
  . split at hb
    . rename_i n hn;cases hb
      have:((UInt8.ofNat n.toNat).toNat:Int)=n:=by
       have:n.toNat < 256:=by omega
       simp [Nat.mod_eq_of_lt this];omega
      simp only [Ba,AF,this]
    . cases hb
  . cases hb
def APQ (h:RD g.im (.sl (Ba s)) v) (h0:s≠[]):∃b off cap,v= .slice (some ⟨b,off,none⟩) s.length cap/\s.length<=cap/\∀(j:Nat) (x:UInt8),s[j]?=some x->g.im b (off+j)=some (.int .u8 x.toNat):=by
 have hbl:(Ba s).length=s.length:=by simp [Ba]
 have hpos:0 < (Ba s).length:=by rw [hbl];exact Iu.2 h0
 obtain ⟨ad,cap,rfl,_⟩:=h.OE
 obtain ⟨b,off,hcap,rfl⟩:∃b off,(Ba s).length<=cap/\ad=some ⟨b,off,none⟩:=by
  generalize hvv:(Value.slice ad (Ba s).length cap)=vv at h;generalize hrr:Ba s=rr at h hvv hpos ⊢;cases h with
  |nil=>simp at hpos
  |sl hc=>cases hvv;exact ⟨_,_,hc,rfl⟩
 refine ⟨b,off,cap,by rw [hbl],by rw [<- hbl];exact hcap,fun j x Z=>?_⟩;obtain ⟨vs,_,_,h2,h3⟩:=RD.cellsOf (eG s) h hpos;obtain ⟨v,hv,hrd⟩:=h3 j (.int .u8 x.toNat) (by rw [aL,Am,Z];rfl);cases hrd;exact h2 j _ hv
def AOZ {ts:Array TypeId} (Z:VR g x v) {r:AV} (hr:xW .usd [x]=some r):∃y,(Builtin.unsafeSliceData_ ts ty #[v]).run P w= .ok y w/\VR g r y:=by
 obtain ⟨t,e,r0,rows,rfl,hr⟩:∃t e r0 rows,x= .own t e 1 (r0::rows)/\(bytesOf (r0::rows)).map (fun s=>AV.bp t e s)=some r:=by
  unfold xW at hr;split at hr<;>first|(cases hr;done)|skip
  all_goals first
   |(rename_i h1;cases h1;done)
   |(rename_i h1 h2;cases h1;done)
   |(rename_i heq;simp only [ZW,and_true] at heq;exact ⟨_,_,_,_,heq,hr⟩)
   |trace_state
 obtain ⟨s,hs,rfl⟩:=AK.1 hr;have hsp:=eI hs;cases Z with
 |own hrd htau hsz=>
  rw [hsp] at hrd;have h0:s≠[]:=by rintro rfl;cases hsp
  obtain ⟨b,off,cap,rfl,hcap,him⟩:=APQ hrd h0;have:cap≠0:=by have:=Iu.2 h0;omega
  exact ⟨_,Lib.run_unsafeSliceData_row (P:=P) w ts ty ⟨b,off,none⟩ s.length cap this,.bp htau him⟩
variable {P:Program} {base N:Nat} {g g':Gh} {Pr:Nat->Prop} {Y σ':AH} {w0 w w':World} {lam:Nat->Option Nat} {F:Fm} {L:Lm} {a:Act}
def Bh.row (h:Bh base g lam Pr N F L Y a w0 w) {i b:Nat} {cs cs':List AV} (hi:Y.blk i=some cs) (hm:g.mu i=some b) {cur:Array Value} {ty:TypeId} (hcur:w.heap[b]?=some (.cells cur ty (0,0)))
 {new:Array Value} (hsz:new.size=cur.size) (hl:cs'.length<=new.size) (hv:VRs g cs' (new.toList.take cs'.length)) (hok:Ax cs'=true):
 Bh base g lam Pr N F L (Y.AL i cs') a w0 (w.setRow b new)/\KP Pr w (w.setRow b new):=by
 obtain ⟨b',hb',ho⟩:=h.rel.shr i cs hi;rw [hm] at hb';cases hb';obtain ⟨vs,ty',hv',hl',hrt,hvr⟩:=ho.row;rw [hcur] at hv';cases hv';have hs:(w.setRow b new).heap.size=w.heap.size:=by simp [World.setRow]
 have hne:∀k,k≠b->(w.setRow b new).heap[k]?=w.heap[k]?:=fun k hk=>setRow_other w b k _ hk;have hrel:=h.rel.write (w':=w.setRow b new) hi hm (by omega) (fun k _ hk=>hne k hk) ⟨rfl,rfl,rfl,by omega,fun k hk=>hne k (by have:=ho.low;omega)⟩ (setRow_heap w b cur new ty _ hcur) hl (fun t ht=>by rw [hsz];exact hrt t ht) hv hok;exact ⟨h.step (Gh.le_refl g) (fun k b' hb'=>hne b' (fun e=>ho.pr (.inr ⟨k,e ▸ hb'⟩))) hrel,by omega,fun k hk=>hne k (fun e=>ho.pr (.inl (e ▸ hk)))⟩
def Bh.part (h:Bh base g lam Pr N F L Y a w0 w) {i:Nat} (hi:Y.blk i=some cs) (hm:g.mu i=some b):
 ∃cur ty,w.heap[b]?=some (.cells cur ty (0,0))/\cs.length<=cur.size/\VRs g cs (cur.toList.take cs.length)/\Ax cs=true/\(∀t,g.rm i=some t->cur.size=t.1/\ty=t.2)/\
  ∀o m,o+m<=cs.length->VRs g ((cs.drop o).take m) ((cur.toList.drop o).take m)/\((cur.toList.drop o).take m).length=m/\(∀v∈(cur.toList.drop o).take m,v.oneCell'=true)/\∀j v,((cur.toList.drop o).take m)[j]?=some v->w.cell? ((⟨b,o,none⟩:Addr).add j)=some v:=by
 obtain ⟨b',hb',ho⟩:=h.rel.shr i cs hi;rw [hm] at hb';cases hb';obtain ⟨cur,ty,hv,hl,hrt,hvr⟩:=ho.row;refine ⟨cur,ty,hv,hl,hvr,ho.ok,hrt,fun o m hom=>?_⟩
 have e:((cur.toList.take cs.length).drop o).take m=(cur.toList.drop o).take m:=by
  rw [List.drop_take,List.take_take,FN (by omega)]
 have h1:=(hvr.drop o).take m;rw [e] at h1;have hlen:((cur.toList.drop o).take m).length=m:=by simp;omega
 refine ⟨h1,hlen,h1.AbF ?_,fun j v hj=>?_⟩
 . have:=ho.ok;simp only [Ax,Aj] at this ⊢;exact fun x Z=>this x (Hw (CZ Z))
 . rw [B2] at hj;split at hj
   . rw [BN] at hj;rw [Addr.add_lit];simp only [World.cell?,hv];simpa using hj
   . cases hj
def ALI {t:TypeId} (h:Bh base g lam Pr N F L Y a w0 w) (hp:SV g lam p pvl) {m:Nat} {newcs:List AV} 
 (hpa:OI Y e i.size p=some (n,cs,σ1)) (hnl:newcs.length=m * i.size) (hvn:VRs g newcs news) (hnok:Ax newcs=true) (hne:0 < m)
 (happ:∀xs,w.ownsRow base e i.size pvl n xs->∃(v':Value) (w':World),(Builtin.append_ #[t,t] ty #[pvl,qvl]).run P w= .ok v' w'/\w'.ownsRow base e i.size v' (n+m) (xs++news)/\w.grownBy w' v'.ownBlock/\(∀k,v'.ownBlock=some k->pvl.ownBlock=some k\/w.heap.size<=k)):
 ∃x g' w' j,(Builtin.append_ #[t,t] ty #[pvl,qvl]).run P w= .ok x w'/\g.le g'/\KP Pr w w'/\Y.blk j=none/\VR g' (.ms j (n+m) i.size e) x/\
  Bh base g' lam Pr N F L (σ1.AL j (cs++newcs)) a w0 w':=by
 obtain ⟨j,hj,htau,hblk,htok⟩:=h.rel.fresh
 have hstart:∃(b0:Nat->Prop) (xs:List Value),w.ownsRow base e i.size pvl n xs/\cs.length=n * i.size/\VRs g cs xs/\Ax cs=true/\(∀b,pvl.ownBlock=some b->b0 b)/\(∀b,b0 b->pvl.ownBlock=some b)/\
  Rel base g (fun x=>(Pr x\/∃k,lam k=some x)\/b0 x) σ1 w0 w/\(∀b,b0 b->(∀o,g.im b o=none)/\¬(Pr b\/∃k,lam k=some b)):=by
  unfold OI at hpa;split at hpa
  . cases hpa;cases hp;refine ⟨fun _=>False,[],World.ownsRow_nil w base e i.size,by simp,.nil,rfl,fun b hb=>by simp [Value.ownBlock] at hb,fun b hb=>hb.elim,?_,fun b hb=>hb.elim⟩
    exact h.rel.grow (AS _) (fun _ _ _=>rfl) (Below.refl _ _) (fun b hb=>by
     rcases hb with hb|hb
     . exact ⟨(h.rel.pr b hb).1,.inl hb⟩
     . exact hb.elim)
  . rename_i i0 n0 s0 e0;split at hpa
    case isFalse=>cases hpa
    rename_i hcond;obtain ⟨rfl,rfl⟩:=hcond;simp only [AB] at hpa;obtain ⟨cs0,hcs0,hpa⟩:=hpa;split at hpa
    case isFalse=>cases hpa
    rename_i hlen;cases hpa;cases hp with
    |@ms _ _ _ _ b cap hm hr hn hmx=>
     obtain ⟨b',hb',ho⟩:=h.rel.shr i0 cs hcs0;rw [hm] at hb';cases hb';obtain ⟨vs,ty',hv,hl,hrt,hvr⟩:=ho.row;obtain ⟨hsz,hty⟩:=hrt _ hr;simp only at hsz hty;subst hty;refine ⟨fun x=>x=b,vs.toList.take cs.length,⟨by simp;omega,.inr ⟨b,cap,vs,rfl,ho.low,hv,hn,hmx,hsz,by rw [hlen]⟩⟩,hlen,hvr,ho.ok,fun b2 hb2=>by simp [Value.ownBlock] at hb2;exact hb2.symm,fun b2 hb2=>by simp [Value.ownBlock,hb2],h.rel.AYR hcs0 hm,fun b2 hb2=>?_⟩;subst hb2;exact ⟨ho.im,ho.pr⟩
  . cases hpa
 obtain ⟨b0,xs,hown,hcl,hvr,hcok,hb1,hb2,hrel1,hb3⟩:=hstart;obtain ⟨v',w',hrun,hown',hgr,hwh⟩:=happ xs hown;have hsame:∀b,b < w.heap.size->v'.ownBlock≠some b->w'.heap[b]?=w.heap[b]?:=fun b hb hne=>hgr.block b hb (A6 hne);have hbel:Below base w w':=⟨hgr.os,hgr.tape,hgr.output,hgr.size,fun k hk=>hsame k (by have:=h.rel.bs;omega) fun e'=>by have:=(hown'.lt k e').1;omega⟩
 have hrel2:Rel base g (fun x=>Pr x\/∃k,lam k=some x) σ1 w0 w':=
  hrel1.grow hgr.size (fun b hb hnp=>hsame b hb (fun e'=>by
   rcases hwh b e' with h1|h1
   . exact hnp (.inr (hb1 b h1))
   . omega)) hbel (fun b hb=>⟨by have:=(h.rel.pr b hb).1;have:=hgr.size;omega,.inl (.inl hb)⟩)
 -- the new row
 have hsome:∃gg cap cur,v'= .slice (some ⟨gg,0,none⟩) (n+m) cap/\base<=gg/\w'.heap[gg]?=some (.cells cur e (0,0))/\n+m<=cap/\cap<=maxLen/\cur.size=cap * i.size/\cur.toList.take ((n+m) * i.size)=xs++news:=by
  rcases hown'.2 with ⟨rfl,h0⟩|hh
  . omega
  . exact hh
 obtain ⟨gg,cap,cur,rfl,hbg,hheap,hnc,hcm,hcur,htake⟩:=hsome
 have hwh':b0 gg\/w.heap.size<=gg:=by
  rcases hwh gg rfl with h1|h1
  . exact .inl (hb1 gg h1)
  . exact .inr h1
 have hpr:¬(Pr gg\/∃k,lam k=some gg):=by
  rcases hwh' with h1|h1
  . exact (hb3 gg h1).2
  . intro hp2;have:=(h.rel.pr gg hp2).1;omega
 have him:∀o,g.im gg o=none:=by
  rcases hwh' with h1|h1
  . exact (hb3 gg h1).1
  . intro o;cases hi':g.im gg o with
    |none=>rfl
    |some v=>have:=h.rel.YK hi';omega
 have hxl:xs.length=n * i.size:=hown.1
 have hcl2:(cs++newcs).length=(n+m) * i.size:=by
  rw [AY,hcl,hnl,Bs]
 have hvrs:VRs g (cs++newcs) (xs++news):=hvr.append hvn
 have hcok2:Ax (cs++newcs)=true:=by
  simp only [Gm,hcok,hnok,XB]
 have hle:=Gh.N1 (g:=g) (i:=j) (b:=gg) (rt:=some (cap * i.size,e)) hj
 have hrel3:=hrel2.ABQ (i:=j) (b:=gg) (rt:=some (cap * i.size,e)) hj hbg (fun q hq' hm=>?_) him (fun t2 v2 e2 s2 ht2 hm2 hvb=>?_) (cs:=cs++newcs) hheap (by rw [hcl2,hcur];exact Bi _ hnc)
  (fun t ht=>by cases ht;exact ⟨hcur,rfl⟩) (by rw [hcl2,htake];exact hvrs) hcok2 hpr
 . refine ⟨_,g.share j gg (some (cap * i.size,e)),w',j,hrun,hle,⟨hgr.size,fun b hb=>hsame b (h.rel.pr b (.inl hb)).1 (fun e'=>by simp only [Value.ownBlock,AM] at e';exact hpr (e' ▸ .inl hb))⟩,hblk,
    .ms (by simp [Gh.share]) (by simp [Gh.share]) hnc hcm,?_⟩
   exact h.step hle (fun k b hb=>hsame b (h.Kx hb) (fun e'=>by simp only [Value.ownBlock,AM] at e';exact hpr (.inr ⟨k,e' ▸ hb⟩))) hrel3
 . rcases hwh' with h1|h1
   . cases hc:σ1.blk q with
     |none=>exact hq' hc
     |some c=>
      obtain ⟨b2,hb2',ho2⟩:=hrel1.shr q c hc;rw [hm] at hb2';cases hb2';exact ho2.pr (.inr h1)
   . cases hc:σ1.blk q with
     |none=>exact hq' hc
     |some c=>have:=hrel1.TB hc hm;omega
 . obtain ⟨v3,e3,s3,n3,xs3,hm3,hown3,hrest3⟩:=(hrel1.tok t2 ht2).row;rw [hm2] at hm3;cases hm3;rcases hwh' with h1|h1
   . exact (hrest3 gg hvb).2.1 (.inr h1)
   . have:=(hown3.lt gg hvb).2;omega
def AF2 {t:TypeId} (ht:P.underlying t=some (.slice e)) (hi:P.info? e=some i) (hz:i.zero=some z) (hzs:z.cells.size=i.size) (hby:i.bytes<=10000) (hpos:0 < i.size)
 (h:Bh base g lam Pr N F L Y a w0 w) {i2 n2 s2 e2:Nat} (hp:VR g p pvl) (hq:VR g (.ms i2 n2 s2 e2) qvl) 
 (hr:s2=i.size/\∃cs2 n cs σ1,Y.blk i2=some cs2/\cs2.length=n2 * i.size/\n2≠0/\n+n2<=1000000000/\OI Y e i.size p=some (n,cs,σ1)/\∀j,Y.blk j=none->R (.ms j (n+n2) i.size e) (σ1.AL j (cs++cs2))):
 J0 P (Builtin.append_ #[t,t] ty #[pvl,qvl]) base g lam Pr N F L a w0 w R:=by
 obtain ⟨rfl,cs2,n,cs,σ1,hb2,hl2,hn2,hbd,hpa,hk⟩:=hr;cases hq with
 |@ms _ _ _ _ b cap hm hrm hn hmx=>
 obtain ⟨cur,ty',hcur,hle,hvr,hok,hrt,hpart⟩:=h.part hb2 hm;obtain ⟨hv2,hvl,hone,hcell⟩:=hpart 0 (n2 * i.size) (by omega);rw [TG,AP (by omega)] at hv2
 have hcore:=ALI (P:=P) (t:=t) (ty:=ty) (qvl:= .slice (some ⟨b,0,none⟩) n2 cap) h (SV.FT hp) hpa hl2 hv2 hok (by omega) (fun xs hown=>by
  refine Eo (P:=P) w base t ty e i z i.size i.bytes ht hi hz rfl rfl hzs pvl n xs hown ⟨b,0,none⟩ n2 cap _ hvl hcell hone (by simp only [maxLen];omega) ?_ h.rel.bs
  calc (n+n2) * i.bytes<=1000000000 * 10000:=Nat.mul_le_mul hbd hby
   _<=140737488355328:=by decide)
 obtain ⟨x,g',w',j,h1,h2,h3,h4,h5,h6⟩:=hcore;exact ⟨x,g',w',_,_,h1,h2,h3,h5,h6,hk j h4⟩
def AF1 {t:TypeId} (ht:P.underlying t=some (.slice e)) (hi:P.info? e=some i)
 (h:Bh base g lam Pr N F L Y a w0 w) (hp:VR g p pvl) (hq:VR g q qvl) (hr:ExR Y R (.ACF e i.size) [p,q]) (hpos:0 < i.size) (hz:i.zero=some z) (hzs:z.cells.size=i.size) (hby:i.bytes<=10000):
 J0 P (Builtin.append_ #[t,t] ty #[pvl,qvl]) base g lam Pr N F L a w0 w R:=by
 by_cases hqm:∃i2 n2 s2 e2,q= .ms i2 n2 s2 e2
 . obtain ⟨i2,n2,s2,e2,rfl⟩:=hqm;exact AF2 ht hi hz hzs hby hpos h hp hq (by cases p<;>exact hr)
 have hqm':∀i2 n2 s2 e2,q≠.ms i2 n2 s2 e2:=fun i2 n2 s2 e2 he=>hqm ⟨i2,n2,s2,e2,he⟩;cases p<;>cases q<;>try (first|exact absurd rfl (hqm' _ _ _ _)|exact (show False from hr).elim)
 rename_i i1 n s1 e1 i2 o2 n2 s2 e2;obtain ⟨⟨rfl,rfl,rfl,rfl⟩,cs,hb,hl1,hl2,hk⟩:=hr;cases hp with
 |@ms _ _ _ _ b cap hm hrm hn hmx=>
 cases hq with
 |@mv _ _ _ _ _ b2 ob cap2 hm2 hrm2 hn2 hmx2 ho2=>
 rw [hm] at hm2;cases hm2;obtain ⟨cur,ty',hcur,hle,hvr,hok,hrt,hpart⟩:=h.part hb hm;obtain ⟨hcs,rfl⟩:=hrt _ hrm;simp only at hcs
 have hroom:n+n2<=cap:=by
  have:(n+n2) * i.size<=cap * i.size:=by rw [<- hcs];omega
  exact Nat.le_of_mul_le_mul_right this hpos
 rw [Bs] at hl1 hl2;obtain ⟨hv2,hvl,hone,hcell⟩:=hpart (o2 * i.size) (n2 * i.size) (by omega);have h1:=hvr.take (n * i.size);rw [List.take_take,FN (by omega)] at h1;have hc2:((cs.drop (o2 * i.size)).take (n2 * i.size)).length=n2 * i.size:=by simp;omega
 have hnl:(cs.take (n * i.size)++(cs.drop (o2 * i.size)).take (n2 * i.size)).length=n * i.size+n2 * i.size:=by
  rw [AY,hc2,B5];omega
 have hnok:Ax (cs.take (n * i.size)++(cs.drop (o2 * i.size)).take (n2 * i.size))=true:=by
  simp only [Ax,Aj] at hok ⊢;intro x Z;rcases AZ.1 Z with Z|Z
  . exact hok x (CZ Z)
  . exact hok x (Hw (CZ Z))
 have hl3:(cur.toList.take (n * i.size)++(cur.toList.drop (o2 * i.size)).take (n2 * i.size)).length=n * i.size+n2 * i.size:=by
  rw [AY,hvl,B5,Ir];omega
 rcases KZ n2 with h0|h0
 . subst h0
   have hrun:(Builtin.append_ #[t,t] ty #[.slice (some ⟨b,0,none⟩) n cap,.slice (some ⟨b,ob,none⟩) 0 (cap2 - o2)]).run P w= .ok (.slice (some ⟨b,0,none⟩) (n+0) cap) w:=by
    have hr:=run_append_room (P:=P) w t ty ty' i ht hi b n cap cur hcur ⟨b,ob,none⟩ 0 (cap2 - o2) [] (by simp) (by simp) (by simp) (by omega) (by simp;omega);rw [hr];congr 1;simp only [Bu,Bw,CF,A7,Array.toArray_toList];exact setRow_self w b cur ty' _ hcur
   have hw:w.setRow b cur=w:=setRow_self w b cur ty' _ hcur
   have hf:=h.row (cs':=cs.take (n * i.size)++(cs.drop (o2 * i.size)).take (0 * i.size)) hb hm hcur (new:=cur) rfl (by rw [hnl];omega) (by
    rw [hnl,Nb,C0,Bu,CF];exact h1) hnok
   rw [hw] at hf;exact ⟨_,g,w,_,_,hrun,Gh.le_refl g,hf.2,.ms hm hrm (by omega) hmx,hf.1,hk⟩
 . have ho2':=ho2 (by omega);subst ho2';have hrun:=run_append_room (P:=P) w t ty ty' i ht hi b n cap cur hcur ⟨b,o2 * i.size,none⟩ n2 (cap2 - o2) _ hvl hcell hone hroom (by rw [hvl,hcs,<- Bs];exact Bi _ hroom);rw [hvl] at hrun
   have hsize:(cur.toList.take (n * i.size)++(cur.toList.drop (o2 * i.size)).take (n2 * i.size)++cur.toList.drop (n * i.size+n2 * i.size)).toArray.size=cur.size:=by
    rw [TI,AY,hl3,Df,Ir];omega
   have hf:=h.row hb hm hcur hsize (cs':=cs.take (n * i.size)++(cs.drop (o2 * i.size)).take (n2 * i.size)) (by rw [hnl,hsize];omega) (by
    rw [hnl];show VRs g _ (G7 _ (_++_++_));rw [<- hl3,List.take_left];exact h1.append hv2) hnok
   exact ⟨_,g,_,_,_,hrun,Gh.le_refl g,hf.2,.ms hm hrm hroom hmx,hf.1,hk⟩
variable {P:Program} {base N:Nat} {g g':Gh} {Pr:Nat->Prop} {Y σ':AH} {w0 w w':World} {lam:Nat->Option Nat} {F:Fm} {L:Lm} {a:Act}
def ASL (hq:SV g lam q qvl) (hqr:q.rows=some srows):RD g.im (.sl srows) qvl:=by
 cases q with
 |d x=>cases x<;>simp only [AV.rows,AM] at hqr<;>try (cases hqr;done)
       subst hqr;cases hq with|d h=>exact h
 |Ad=>simp only [AV.rows,AM] at hqr;subst hqr;cases hq;exact .nil (FO _) (fun _=>rfl)
 |own _ _ _ _=>simp only [AV.rows,AM] at hqr;subst hqr;cases hq with|own h _ _=>exact h
 |clip _=>simp only [AV.rows,AM] at hqr;subst hqr;cases hq with|clip h=>exact h
 |_=>cases hqr
def AMM (h:Bh base g lam Pr N F L Y a w0 w) (cells:Array Value) (e:TypeId) (n:Nat):
 g.le (g.settle w.heap.size n cells)/\KP Pr w (w.drew.alloc (.cells cells e))/\Bh base (g.settle w.heap.size n cells) lam Pr N F L Y a w0 (w.drew.alloc (.cells cells e)):=by
 have hold:∀b,b < w.heap.size->(w.drew.alloc (.cells cells e)).heap[b]?=w.heap[b]?:=fun b hb=>heap_alloc_old w.drew _ b hb;have hbel:Below base w (w.drew.alloc (.cells cells e)):=⟨rfl,rfl,rfl,by simp,fun k hk=>hold k (by have:=h.rel.bs;omega)⟩;have hrel1:=h.rel.grow (w':=w.drew.alloc (.cells cells e)) (Pr':=fun b=>Pr b\/∃k,lam k=some b) (by simp) (fun b hb _=>hold b hb) hbel (fun b hb=>⟨by have:=(h.rel.pr b hb).1;simp;omega,.inl hb⟩)
 have hrel:=h.rel.settle (n:=n) (vs:=cells) (b:=w.heap.size) (AS _) hrel1 (fun o=>by
  rw [World.cell?_of_block (w:=w.alloc (.cells cells e)) (show (w.drew.alloc (.cells cells e)).heap[w.heap.size]?=(w.alloc (.cells cells e)).heap[w.heap.size]? from rfl)];simp)
 have hle:=h.rel.ZP w.heap.size n cells (AS _);exact ⟨hle,⟨by simp,fun b hp=>hold b (h.rel.pr b (.inl hp)).1⟩,h.step hle (fun k b hb=>hold b (h.Kx hb)) hrel⟩
def AGN {t:TypeId} (ht:P.underlying t=some (.slice e)) (hi:P.info? e=some i) (hz:i.zero=some z) (hzs:z.cells.size=i.size)
 (h:Bh base g lam Pr N F L Y a w0 w) {rows:List (List DV)} (hp:SV g lam (.clip rows) pvl) (hq:SV g lam q qvl) (hqr:q.rows=some srows)
 (hrs:∀r∈rows,r.length=i.size) (hss:∀r∈srows,r.length=i.size) (h63:rows.length+srows.length<=maxLen) (hby:(rows.length+srows.length) * i.bytes<=140737488355328):
 ∃x g' w',(Builtin.append_ #[t,t] ty #[pvl,qvl]).run P w= .ok x w'/\g.le g'/\KP Pr w w'/\VR g' (.d (.sl (rows++srows))) x/\Bh base g' lam Pr N F L Y a w0 w':=by
 have hqd:=ASL hq hqr;have hpc:VR g (.clip rows) pvl:=hp;generalize hcl:AV.clip rows=cl at hpc;cases hpc<;>cases hcl;rename_i ad n hrd;obtain ⟨ad',cap',hcap',_⟩:=hrd.OE;have hn:n=rows.length:=by simp only [Value.slice.injEq] at hcap';exact hcap'.2.1
 subst hn;by_cases h0:srows=[]
 . subst h0;obtain ⟨ad2,cap2,rfl,_⟩:=hqd.OE
   have hrun:(Builtin.append_ #[t,t] ty #[.slice ad rows.length rows.length,.slice ad2 0 cap2]).run P w= .ok (.slice ad rows.length rows.length) w:=by
    have hfc:∀sz,(Builtin.firstCells sz 0 (.slice ad2 0 cap2)).run P w= .ok #[] w:=fun sz=>by
     cases ad2<;>simp [Builtin.firstCells,loadCells,loadCellsFrom]
    cases ad<;>simp [Builtin.append_,run_underlying ht,sizeOf,typeInfo,hi,Builtin.lenOf,hfc,storeCells]
   exact ⟨_,g,w,hrun,Gh.le_refl g,KP.refl Pr w,.d (by simpa using hrd),h⟩
 . have hpos:0 < srows.length:=Iu.2 h0;obtain ⟨ad2,cap2,rfl,_⟩:=hqd.OE
   obtain ⟨b,off,rfl⟩:∃b off,ad2=some ⟨b,off,none⟩:=by
    generalize hvv:(Value.slice ad2 srows.length cap2)=vv at hqd;cases hqd with
    |nil=>simp at hpos
    |sl=>cases hvv;exact ⟨_,_,rfl⟩
   obtain ⟨news,hnl,_,hni,hnr⟩:=RD.cellsOf hss hqd hpos;have hnews:∀j u,news[j]?=some u->w.cell? ((⟨b,off,none⟩:Addr).add j)=some u:=fun j u hu=>by rw [Addr.add_lit];exact h.rel.im _ _ _ (hni j u hu)
   have h63':((rows.length+srows.length:Nat):Int)<=9223372036854775807:=by simp only [maxLen] at h63;omega
   obtain ⟨olds,cap,hol,hor,hrun,hcg,hcm⟩:∃(olds:List Value) (cap:Nat),olds.length=rows.length * i.size/\(∀(j:Nat) (x:DV),rows.flatten[j]?=some x->∃v,olds[j]?=some v/\RD g.im x v)/\
    (Builtin.append_ #[t,t] ty #[.slice ad rows.length rows.length,.slice (some ⟨b,off,none⟩) srows.length cap2]).run P w=
      .ok (.slice (some ⟨w.heap.size,0,none⟩) (rows.length+srows.length) cap) (w.drew.alloc (.cells (olds.toArray++news.toArray++Builtin.zeroCells z.cells (cap - (rows.length+srows.length))) e))/\
    rows.length+srows.length<=cap/\cap<=maxLen:=by
    cases ad with
    |none=>
     have hr0:rows=[]:=by
      generalize hvv:(Value.slice none rows.length rows.length)=vv at hrd;cases hrd with
      |nil=>rfl
      |sl=>cases hvv
     subst hr0;have hr:=run_append_nil (P:=P) w t ty e i z ht hi hz ⟨b,off,none⟩ srows.length cap2 news hnl hnews hpos (by simpa using h63') (by simp at hby;omega);exact ⟨[],_,by simp,by simp,by simpa using hr,by simpa using grownCap_ge w srows.length 0 e,grownCap_le_maxLen w _ 0 e (by simpa using h63)⟩
    |some ad=>
     have hgr:=fun olds h1 h2=>run_append_grow (P:=P) w t ty e i z ht hi hz ad rows.length rows.length olds h1 h2 ⟨b,off,none⟩ srows.length cap2 news hnl hnews (by omega) h63' (growslice_fits (by omega) hby);have hge:=grownCap_ge w (rows.length+srows.length) rows.length e;have hlm:=grownCap_le_maxLen w (rows.length+srows.length) rows.length e h63;by_cases hr0:rows=[]
     . subst hr0;exact ⟨[],_,by simp,by simp,hgr [] (by simp) (by simp),hge,hlm⟩
     . obtain ⟨b2,off2,rfl⟩:∃b off,ad=⟨b,off,none⟩:=by
        generalize hvv:(Value.slice (some ad) rows.length rows.length)=vv at hrd;cases hrd with
        |nil=>exact absurd rfl hr0
        |sl=>cases hvv;exact ⟨_,_,rfl⟩
       obtain ⟨olds,hol,_,hoi,hor⟩:=RD.cellsOf hrs hrd (Iu.2 hr0);exact ⟨olds,_,hol,hor,hgr olds hol (fun j u hu=>by rw [Addr.add_lit];exact h.rel.im _ _ _ (hoi j u hu)),hge,hlm⟩
   generalize hcells:olds.toArray++news.toArray++Builtin.zeroCells z.cells (cap - (rows.length+srows.length))=cells at hrun;obtain ⟨hle,hkp,hf⟩:=AMM h cells e (olds.length+news.length);refine ⟨_,_,_,hrun,hle,hkp,?_,hf⟩
   have hall:∀r∈rows++srows,r.length=i.size:=fun r hr=>by
    rcases AZ.1 hr with h1|h1
    . exact hrs r h1
    . exact hss r h1
   have hol':(olds++news).length=(rows++srows).length * i.size:=by rw [AY,AY,hol,hnl,Bs]
   have:=RD.AIH (im:=(g.settle w.heap.size (olds.length+news.length) cells).im) (rows:=rows++srows) (size:=i.size) (b:=w.heap.size) (off:=0) (cap:=cap) (ys:=olds++news)
    hall (by simpa using hcg) hcm hol' (fun j u hu=>by
     have hlt:=(AE.1 hu).1;rw [AY] at hlt;simp only [Gh.settle,if_true,BF,if_pos hlt];rw [<- hcells];rw [Array.getElem?_append_left (by simp;omega)];simpa using hu) (fun j x Z=>by
     rw [It] at Z;have hfl:=FP rows hrs;rcases C8 j rows.flatten.length with h1|h1
     . rw [BC h1] at Z;obtain ⟨v,hv,hrd⟩:=hor j x Z;exact ⟨v,by rw [BC (by omega)];exact hv,hrd.mono hle.im⟩
     . rw [As h1] at Z;obtain ⟨v,hv,hrd⟩:=hnr _ x Z;refine ⟨v,?_,hrd.mono hle.im⟩;rw [As (by omega),hol,<- hfl];exact hv)
   exact .d (by simpa using this)
variable {P:Program} {base N:Nat} {g g':Gh} {Pr:Nat->Prop} {Y σ':AH} {w0 w w':World} {lam:Nat->Option Nat} {F:Fm} {L:Lm} {a:Act}
def Gh.dD (g:Gh) (t b:Nat) (es:MEs):Gh:= { g with tau:=fun s=>if s=t then some (vG b es,0,0) else g.tau s}
def Gh.AA1 {t:Nat} (h:g.tau t=none):g.le (g.dD t b es):=
 ⟨fun _ _ _ h=>h,fun _ _ h=>h,fun s x Z=>by
   simp only [Gh.dD];rw [if_neg (fun e=>by rw [e,h] at Z;cases Z)];exact Z,fun _ _ h=>h⟩
def kQ (b:Nat) (es:MEs):Y3 (vG b es)=some b:=by unfold Y3;rw [Xc]
def Rel.dD (h:Rel base g Pr Y w0 w) {t b clock:Nat} {es:MEs} {ents:Array MapEntry} (ht:g.tau t=none) (hb:base<=b)
 (him:∀o,g.im b o=none) (hpr:¬Pr b) (hsh:∀i,Y.blk i≠none->g.mu i≠some b) (htk:∀t2 v2 e2 s2,Y.tok t2=true->g.tau t2=some (v2,e2,s2)->Y3 v2≠some b)
 (hsz:w.heap.size<=w'.heap.size) (hsame:∀k,k < w.heap.size->k≠b->w'.heap[k]?=w.heap[k]?) (hbel:Below base w w') (hw:w'.heap[b]?=some (.map ents clock)) (he:VN es ents):
 Rel base (g.dD t b es) Pr (Y.Bq t) w0 w':=by
 have hle:=Gh.AA1 (b:=b) (es:=es) ht;refine ⟨fun b2 o u hu=>?_,fun i cs hi=>?_,h.inj,fun t2 ht2=>?_,fun b2 hp=>⟨Be (h.pr b2 hp).1 hsz,(h.pr b2 hp).2⟩,h.bel.trans hbel,Af h.bs hsz,?_,h.st.mono hle rfl rfl⟩
 . have hu:g.im b2 o=some u:=hu;have hne:b2≠b:=fun e=>by rw [e,him] at hu;cases hu
   rw [World.cell?_of_block (w:=w) (hsame b2 (h.YK hu) hne)];exact h.im b2 o u hu
 . have hi:Y.blk i=some cs:=hi;obtain ⟨b2,hm,ho⟩:=h.shr i cs hi;obtain ⟨vs,ty,hv,hl,hrt,hr⟩:=ho.row;have hne:b2≠b:=fun e=>hsh i (by rw [hi];simp) (by rw [hm,e]);exact ⟨b2,hm,ho.ok,⟨vs,ty,by rw [hsame b2 (h.TB hi hm) hne];exact hv,hl,hrt,hr.mono hle⟩,ho.low,ho.im,ho.pr⟩
 . by_cases e:t2=t
   . subst e;refine ⟨vG b es,0,0,0,[],by simp [Gh.dD],?_,fun b2 hb2=>?_⟩
     . unfold R7;rw [Xc];exact ⟨hb,ents,clock,hw,he⟩
     . rw [kQ] at hb2;cases hb2;refine ⟨fun o _=>him o,hpr,hsh,fun t3 v3 e3 s3 hne ht3 hm3=>?_⟩;simp only [AH.Bq,if_neg hne] at ht3;simp only [Gh.dD,if_neg hne] at hm3;exact htk t3 v3 e3 s3 ht3 hm3
   . simp only [AH.Bq,if_neg e] at ht2;obtain ⟨v2,e2,s2,n2,xs2,hm2,hown2,hrest⟩:=(h.tok t2 ht2).row;refine ⟨v2,e2,s2,n2,xs2,by simp [Gh.dD,e,hm2],Pq hown2 fun b2 hb2=>hsame b2 (hown2.lt b2 hb2).2 (fun e3=>htk t2 v2 e2 s2 ht2 hm2 (by rw [hb2,e3])),fun b2 hb2=>?_⟩;obtain ⟨k1,k2,k3,k4⟩:=hrest b2 hb2;refine ⟨k1,k2,k3,fun t3 v3 e3 s3 hne ht3 hm3=>?_⟩;by_cases e3':t3=t
     . subst e3';simp only [Gh.dD,if_true] at hm3;cases hm3;rw [kQ];intro e4;exact htk t2 v2 e2 s2 ht2 hm2 (by rw [hb2,e4])
     . simp only [AH.Bq,if_neg e3'] at ht3;simp only [Gh.dD,if_neg e3'] at hm3;exact k4 t3 v3 e3 s3 hne ht3 hm3
 . obtain ⟨k,hk⟩:=h.fin;refine ⟨max k (t+1),fun i hi=>⟨(hk i (by omega)).1,?_,(hk i (by omega)).2.2⟩⟩;have:i≠t:=by omega
   simp [Gh.dD,this,(hk i (by omega)).2.1]
def ANL (h:Bh base g lam Pr N F L Y a w0 w) (hr:∀t,Y.tok t=false->R (.om t []) (Y.Bq t)):
 J0 P (Instr.makeMap mt none) base g lam Pr N F L a w0 w R:=by
 obtain ⟨t,_,htau,_,htok⟩:=h.rel.fresh;have hle:=Gh.AA1 (b:=w.heap.size) (es:=[]) htau
 have hrel:=h.rel.dD (w':=w.alloc (.map #[] 0)) (b:=w.heap.size) (es:=[]) (ents:=#[]) (clock:=0) htau h.rel.bs
  (fun o=>by
    cases hi:g.im w.heap.size o with
    |none=>rfl
    |some v=>have:=h.rel.YK hi;omega)
  (fun hp=>by have:=(h.rel.pr _ hp).1;omega)
  (fun i hi hm=>by
    cases hc:Y.blk i with
    |none=>exact hi hc
    |some cs=>have:=h.rel.TB hc hm;omega)
  (fun t2 v2 e2 s2 ht2 hm2 hvb=>by
    obtain ⟨v3,e3,s3,n3,xs3,hm3,hown3,_⟩:=(h.rel.tok t2 ht2).row;rw [hm2] at hm3;cases hm3;have:=(hown3.lt _ hvb).2;omega)
  (by simp) (fun k hk _=>heap_alloc_old w _ k hk) (XR h.rel.bs) (heap_alloc_new w _) rfl
 exact ⟨.map (some w.heap.size),g.dD t w.heap.size [],w.alloc (.map #[] 0),.om t [],Y.Bq t,rfl,hle,⟨by simp,fun b hb=>heap_alloc_old w _ b (h.rel.pr b (.inl hb)).1⟩,
  .om (by simp [Gh.dD]),h.step hle (fun k b hb=>heap_alloc_old w _ b (h.Kx hb)) hrel,hr t htok⟩
def AA7 (h:Bh base g lam Pr N F L Y a w0 w) {t:Nat} (hv:VR g (.om t es) v) (ht:Y.tok t=true):
 ∃b ents clock,v= .map (some b)/\g.tau t=some (vG b es,0,0)/\w.heap[b]?=some (.map ents clock)/\VN es ents/\base<=b/\
  (∀o,g.im b o=none)/\¬(Pr b\/∃k,lam k=some b)/\(∀i,Y.blk i≠none->g.mu i≠some b)/\(∀t2 v2 e2 s2,t2≠t->Y.tok t2=true->g.tau t2=some (v2,e2,s2)->Y3 v2≠some b):=by
 cases hv with
 |@om _ b _ htau=>
  obtain ⟨v2,e2,s2,n2,xs2,hm2,hown2,hrest⟩:=(h.rel.tok t ht).row;rw [htau] at hm2;cases hm2;obtain ⟨k1,k2,k3,k4⟩:=hrest b (kQ b es);unfold R7 at hown2;rw [Xc] at hown2;obtain ⟨hb,ents,clock,hw,he⟩:=hown2;refine ⟨b,ents,clock,rfl,htau,hw,he,hb,fun o=>?_,k2,k3,k4⟩;cases hi:g.im b o with
  |none=>rfl
  |some u=>
   have:=h.rel.im b o u hi;simp [World.cell?,hw] at this
def AA0 {ents:Array MapEntry} (h:VN es ents):ents.size=es.length:=by
 have:=congrArg List.length h;simpa using this
def AIB (hm:P.underlying mt=some (.map k e)) (h:Bh base g lam Pr N F L Y a w0 w) {t:Nat} (hv:VR g (.om t es) v) (ht:Y.tok t=true) (hl:es.length<=1000000000)
 (hr:R (.d (.int .i64 es.length)) Y):J0 P (Builtin.len_ #[mt] ty #[v]) base g lam Pr N F L a w0 w R:=by
 obtain ⟨b,ents,clock,rfl,_,hw,he,_⟩:=AA7 h hv ht;refine ⟨goInt es.length,g,w,_,Y,?_,Gh.le_refl g,KP.refl Pr w,.d (.int ?_),h,hr⟩
 . simp [Builtin.len_,run_underlying hm,MapKept.run_getObj_map hw,AA0 he]
 . simp only [IntKind.has,IntKind.min,IntKind.max,IntKind.signed,IntKind.bits];constructor<;>simp<;>omega
def Xf (ki:IntKind) (k:Int):∀(l:List MapEntry) (es:List (Int×Int)) (i:Nat),l.map (fun m=>(m.key,m.val))=(mI es).map Un->
 (es.lookup k=none/\Instr.findNow (.int ki) (.int .i64 k) l i=some none)\/∃v j,es.lookup k=some v/\Instr.findNow (.int ki) (.int .i64 k) l i=some (some (j,.int .i64 v))
 |[],[],i,_=>.inl ⟨rfl,rfl⟩
 |[],_::_,i,h=>by simp [mI] at h
 |_::_,[],i,h=>by simp [mI] at h
 |m::l,p::es,i,h=>by
  simp only [mI,Un,kV,AF,ZW,BZ] at h;obtain ⟨⟨h1,h2⟩,h3⟩:=h;by_cases e:k=p.1
  . refine .inr ⟨p.2,i,?_,?_⟩
    . rw [List.lookup];simp [e]
    . simp [Instr.findNow,h1,h2,Instr.sameNow,e]
  . have e':(k==p.1)=false:=by simpa using e
    rcases Xf ki k l es (i+1) h3 with ⟨h4,h5⟩|⟨v,j,h4,h5⟩
    . refine .inl ⟨by rw [List.lookup,e'];exact h4,?_⟩;simp only [Instr.findNow,h1,Instr.sameNow,if_true,e',h5]
    . refine .inr ⟨v,j,by rw [List.lookup,e'];exact h4,?_⟩;simp only [Instr.findNow,h1,Instr.sameNow,if_true,e',h5]
def AH8 (hm:P.underlying mt=some (.map k e)) (hk:P.underlying k=some (.int .i64)) (hi:P.info? e=some i) (hz:i.zero=some (.int .i64 0))
 (h:Bh base g lam Pr N F L Y a w0 w) {t:Nat} {es:List (Int×Int)} {n:Int} (hv:VR g (.om t (mI es)) v) (hu:VR g (.d (.int .i64 n)) u) (ht:Y.tok t=true)
 (hr:∃x,(0<=x/\x<=1000000000)/\es.lookup n=some x/\R (.tup [.d (.int .i64 x),.d (.bool true)]) Y\/es.lookup n=none/\R (.tup [.d (.int .i64 0),.d (.bool false)]) Y):
 J0 P (Instr.lookup mt v u true) base g lam Pr N F L a w0 w R:=by
 obtain ⟨b,ents,clock,rfl,_,hw,he,_⟩:=AA7 h hv ht;cases hu with|d hu=>cases hu with|int hn=>
 have hkey:MapKept.IsKey (.int .i64) (.int .i64 n):=by first|rfl|trivial|exact ⟨_,rfl⟩
 have hvr:∀(x:Int) (c:Bool),(0<=x/\x<=1000000000)->VR g (.tup [.d (.int .i64 x),.d (.bool c)]) (.tuple #[.int .i64 x,.bool c]):=fun x c Z=>
  .tup (vs:=[.int .i64 x,.bool c]) rfl (fun j y z h1 h2=>by
   match j with
   |0=>simp at h1 h2;subst h1;subst h2;exact .d (.int (by simp only [IntKind.has,IntKind.min,IntKind.max,IntKind.signed,IntKind.bits];constructor<;>simp<;>omega))
   |1=>simp at h1 h2;subst h1;subst h2;exact .d .bool
   |j+2=>simp at h1)
 obtain ⟨x,hr⟩:=hr;rcases Xf .i64 n ents.toList es 0 he with ⟨h1,h2⟩|⟨y,j,h1,h2⟩
 . rcases hr with ⟨_,h3,_⟩|⟨_,hR⟩
   . rw [h1] at h3;cases h3
   refine ⟨.tuple #[.int .i64 0,.bool false],g,w,_,Y,?_,Gh.le_refl g,KP.refl Pr w,hvr 0 false (by omega),h,hR⟩;simp [Instr.lookup,run_underlying hm,MapKept.run_getObj_map hw,MapKept.run_checkKey hk hkey,MapKept.run_findKey hk h2,zeroValue,typeInfo,hi,hz]
 . rcases hr with ⟨Z,h3,hR⟩|⟨h3,_⟩
   . rw [h1] at h3;cases h3;refine ⟨.tuple #[.int .i64 x,.bool true],g,w,_,Y,?_,Gh.le_refl g,KP.refl Pr w,hvr x true Z,h,hR⟩;simp [Instr.lookup,run_underlying hm,MapKept.run_getObj_map hw,MapKept.run_checkKey hk hkey,MapKept.run_findKey hk h2]
   . rw [h1] at h3;cases h3
def cX (h:rX P e=true):P.underlying e=some (.int .i64):=by
 unfold rX at h;split at h
 . assumption
 . cases h
def AO6 (h:AW5 P e=true):∃i,P.info? e=some i/\i.zero=some (.int .i64 0):=by
 unfold AW5 at h;split at h
 . rename_i i hi;split at h
   . exact ⟨i,hi,by assumption⟩
   . cases h
 . cases h
def AD4 (hm:P.underlying mt=some (.map k e)) (hk:rX P k=true) (he:AW5 P e=true) (h:Bh base g lam Pr N F L Y a w0 w) (hv:VR g p v) (hu:VR g q u)
 (hr:ExR Y R .ANK [p,q]):J0 P (Instr.lookup mt v u true) base g lam Pr N F L a w0 w R:=by
 cases p<;>try (exact (show False from hr).elim)
 cases q<;>try (exact (show False from hr).elim)
 rename_i y;cases y<;>try (exact (show False from hr).elim)
 rename_i kk n;cases kk<;>try (exact (show False from hr).elim)
 obtain ⟨i,hi,hz⟩:=AO6 he;obtain ⟨ht,es0,rfl,hr⟩:=hr;exact AH8 hm (cX hk) hi hz h hv hu ht hr
def AD5 (hm:P.underlying mt=some (.map k e)) (h:Bh base g lam Pr N F L Y a w0 w) (hv:VR g p v)
 (hr:ExR Y R .AIA [p]):J0 P (Builtin.len_ #[mt] ty #[v]) base g lam Pr N F L a w0 w R:=by
 cases p<;>try (exact (show False from hr).elim)
 exact AIB hm h hv hr.1.1 hr.1.2 hr.2
def reA (t:Nat) (x:AV):AV->AV
 | .om s es=>if s=t then x else .om s es
 |v=>v
def reF (t:Nat) (x:AV) (F:Fm):Fm:=fun s=>reA t x (F s)
def yJ (h:Bh base g lam Pr N F L Y a w0 w) {t:Nat} {p:MK×Int} (hv:VR g (.om t es) v) (ht:Y.tok t=true)
 (hr:∀b ents clock,w.heap[b]?=some (.map ents clock)->VN es ents->(Instr.mapUpdate mt (.map (some b)) (Un p).1 (Un p).2).run P w= .ok () { w with heap:=w.heap.setIfInBounds b (.map (ents.push ⟨(Un p).1,(Un p).2,clock⟩) (clock+1))}):
 ∃g' w' t',(Instr.mapUpdate mt v (Un p).1 (Un p).2).run P w= .ok () w'/\g.le g'/\KP Pr w w'/\Y.tok t'=false/\Bh base g' lam Pr N (reF t (.om t' (es++[p])) F) L ((Y.CP t).Bq t') a w0 w':=by
 obtain ⟨b,ents,clock,rfl,htau,hw,he,hb,him,hpr,hsh,htk⟩:=AA7 h hv ht;obtain ⟨t',_,htau',_,htok'⟩:=h.rel.fresh;obtain ⟨hs1,hs2⟩:=MapKept.heap_set (o':= .map (ents.push ⟨(Un p).1,(Un p).2,clock⟩) (clock+1)) hw;have hrun:=hr b ents clock hw he;generalize hw':({ w with heap:=w.heap.setIfInBounds b (.map (ents.push ⟨(Un p).1,(Un p).2,clock⟩) (clock+1))}:World)=w' at hrun;have hh:w'.heap=w.heap.setIfInBounds b (.map (ents.push ⟨(Un p).1,(Un p).2,clock⟩) (clock+1)):=by rw [<- hw']
 have hle:=Gh.AA1 (b:=b) (es:=es++[p]) htau';have hsz:w'.heap.size=w.heap.size:=by rw [hh];simp
 have hold:∀c,c≠b->w'.heap[c]?=w.heap[c]?:=fun c hc=>by rw [hh];exact hs2 c hc
 have hbel:Below base w w':=by
  subst hw';exact ⟨rfl,rfl,rfl,by simp,fun c hc=>by exact hs2 c (by omega)⟩
 have hrel:=(h.rel.less (AH.ZF Y t)).dD (w':=w') (b:=b) (es:=es++[p]) htau' hb him hpr hsh
  (fun t2 v2 e2 s2 ht2 hm2=>by
    have hne:t2≠t:=fun e=>by subst e;simp [AH.CP] at ht2
    simp only [AH.CP,if_neg hne] at ht2;exact htk t2 v2 e2 s2 hne ht2 hm2) (by omega) (fun c _ hc=>hold c hc) hbel (by rw [hh];exact hs1) (by
    unfold VN at he ⊢;simp [he])
 have hf:=h.step hle (fun c b2 hb2=>hold b2 (fun e=>hpr (.inr ⟨c,by rw [hb2,e]⟩))) hrel;refine ⟨_,w',t',hrun,hle,⟨by omega,fun c hc=>hold c (fun e=>hpr (.inl (by rw [<- e];exact hc)))⟩,htok',⟨fun s=>?_,hf.sz,hf.df,hf.loc,hf.inj,hf.npr,hf.rel⟩⟩;have h1:=hf.tm s;generalize a.tmps.getD s Cl=val at h1 ⊢;unfold reF;cases hF:F s with
 |om s2 es2=>
  rw [hF] at h1;simp only [reA];split
  . rename_i e;subst e;have h1:VR _ (.om s2 es2) val:=h1;cases h1 with
    |@om _ b2 _ h3=>
     have h4:=hle.tau _ _ htau;rw [h3] at h4;have h5:vG b2 es2=vG b es:=by simpa using h4
     obtain ⟨rfl,_⟩:=AQC h5;exact .om (by simp [Gh.dD])
  . exact h1
 |_=>rw [hF] at h1;exact h1
def AIC (hm:P.underlying mt=some (.map k e)) (hk:P.underlying k=some (.int .i64))
 (h:Bh base g lam Pr N F L Y a w0 w) {t:Nat} {es:List (Int×Int)} {n x:Int} (hv:VR g (.om t (mI es)) v) (hu:VR g (.d (.int .i64 n)) u) (hz:VR g (.d (.int .i64 x)) z) (ht:Y.tok t=true) (hno:es.lookup n=none):
 ∃g' w' t',(Instr.mapUpdate mt v u z).run P w= .ok () w'/\g.le g'/\KP Pr w w'/\Y.tok t'=false/\Bh base g' lam Pr N (reF t (.om t' (mI (es++[(n,x)]))) F) L ((Y.CP t).Bq t') a w0 w':=by
 cases hu with|d hu=>cases hu with|int hn=>
 cases hz with|d hz=>cases hz with|int Z=>
 have hkey:MapKept.IsKey (.int .i64) (.int .i64 n):=by first|rfl|trivial|exact ⟨_,rfl⟩
 rw [show mI (es++[(n,x)])=mI es++[(.inl n,x)] from by simp [mI]];refine yJ (mt:=mt) (p:=(.inl n,x)) h hv ht fun b ents clock hw he=>?_;rcases Xf .i64 n ents.toList es 0 he with ⟨_,h2⟩|⟨y,j,h1,_⟩
 case inr=>rw [hno] at h1;cases h1
 simp [Un,kV,Instr.mapUpdate,run_underlying hm,MapKept.run_getObj_map hw,MapKept.run_checkKey hk hkey,MapKept.run_findKey hk h2,MapKept.run_setObj_map _ hw,Result.andThen]
def YN (h:MO P k=true):∃f g,P.underlying k=some (.struct #[f,g])/\f.name≠ "_"/\g.name≠ "_"/\f.offset=0/\g.offset=1/\P.underlying f.type=some (.int .i64)/\P.underlying g.type=some .string/\P.stoodInHeld k=false:=by
 unfold MO at h;split at h
 . rename_i fs hu;rw [AO] at h;obtain ⟨h1,h2⟩:=h;split at h1
   . rename_i f g hfg;simp only [AO,bne_iff_ne,beq_iff_eq] at h1;obtain ⟨⟨⟨⟨⟨a1,a2⟩,a3⟩,a4⟩,a5⟩,a6⟩:=h1;obtain ⟨l⟩:=fs;simp only at hfg;subst hfg;refine ⟨f,g,hu,a1,a2,a3,a4,cX a5,?_,by simpa using h2⟩;split at a6
     . assumption
     . cases a6
   . cases h1
 . cases h
abbrev prV (n:Int) (s:List UInt8):Value:= .agg #[.int .i64 n,.string ⟨⟨s⟩⟩]
def AVR (hk:MO P k=true) (w:World) (n m:Int) (a b:List UInt8):(Op.equal k (prV n a) (prV m b)).run P w= .ok (n==m&&a==b) w:=by
 obtain ⟨f,g,hu,h1,h2,h3,h4,h5,h6,h7⟩:=YN hk;have hfo:P.fieldsOf k=#[f,g]:=by unfold Program.fieldsOf;rw [hu]
 have e:=run_equalIn_struct (P:=P) w 9999 k #[.int .i64 n,.string ⟨⟨a⟩⟩] #[.int .i64 m,.string ⟨⟨b⟩⟩] (by rw [hfo];exact hu) h7;have ha1:(isAgg f.type).run P w= .ok false w:=by simp [isAgg,B4 h5]
 have ha2:(isAgg g.type).run P w= .ok false w:=by simp [isAgg,B4 h6]
 have e2:((⟨⟨a⟩⟩:ByteArray).toList==(⟨⟨b⟩⟩:ByteArray).toList)=(a==b):=by rw [ByteArray.toList_eq,ByteArray.toList_eq]
 have i1:(Op.equalIn 9999 f.type (.int .i64 n) (.int .i64 m)).run P w= .ok (n==m) w:=run_equalIn_int w 9998 f.type .i64 .i64 n m h5;have i2:(Op.equalIn 9999 g.type (.string ⟨⟨a⟩⟩) (.string ⟨⟨b⟩⟩)).run P w= .ok (a==b) w:=by rw [<- e2];exact run_equalIn_string w 9998 g.type _ _ h6
 show (Op.equalIn (9999+1) k _ _).run P w=_;rw [e,hfo];simp only [Op.eqFields,h1,h2,ne_eq,not_false_eq_true,if_true,part,Sem.run_bind,ha1,Result.andThen_ok,A1,if_false,h3,h4,Sem.run_pure,List.getElem?_toArray,Aw,i1];cases (n==m)
 . simp
 . simp only [XC,A1,if_false,Sem.run_bind,ha2,Result.andThen_ok,Sem.run_pure,RG,Aw,i2,Bk];cases (a==b)<;>simp
def sQ (hk:MO P k=true) (w:World) (n:Int) (a:List UInt8) (e:Bool):(Instr.checkKey e 10000 k (prV n a)).run P w= .ok () w:=by
 obtain ⟨f,g,hu,h1,h2,h3,h4,h5,h6,h7⟩:=YN hk;have ha1:(isAgg f.type).run P w= .ok false w:=by simp [isAgg,B4 h5]
 have ha2:(isAgg g.type).run P w= .ok false w:=by simp [isAgg,B4 h6]
 have c1:=MapKept.run_checkKey (P:=P) (w:=w) (k:= .int .i64 n) h5 rfl e 9998;have c2:=MapKept.run_checkKey (P:=P) (w:=w) (k:= .string ⟨⟨a⟩⟩) h6 trivial e 9998;rw [Instr.checkKey];simp only [Sem.run_bind,run_underlying hu,Result.andThen_ok];simp [h1,h2,h3,h4,part,ha1,ha2,c1,c2]
def yQ {k:TypeId} (hk:MO P k=true) (w:World) (n:Int) (a:List UInt8):∀(l:List MapEntry) (ks:List (Int×List UInt8)) (i:Nat),l.map (fun m=>(m.key,m.val))=(mK ks).map Un->
 (ks.contains (n,a)=false/\(Instr.findAsking k (prV n a) l i).run P w= .ok none w)\/∃j,ks.contains (n,a)=true/\(Instr.findAsking k (prV n a) l i).run P w= .ok (some (j,.bool true)) w
 |[],[],i,_=>.inl ⟨rfl,rfl⟩
 |[],_::_,i,h=>by simp [mK] at h
 |_::_,[],i,h=>by simp [mK] at h
 |m::l,(q,b)::ks,i,h=>by
  simp only [mK,Un,kV,AF,ZW,BZ] at h;obtain ⟨⟨h1,h2⟩,h3⟩:=h;have he:=AVR hk w n q a b;have hb:((n,a)==(q,b))=(n==q&&a==b):=rfl;rw [Instr.findAsking];simp only [Sem.run_bind,h1,he,Result.andThen_ok,QM,hb];cases hc:(n==q&&a==b)
  . simp only [A1,if_false,Ep];exact yQ hk w n a l ks (i+1) h3
  . exact .inr ⟨i,rfl,by simp [h2]⟩
def gD (hk:MO P k=true) {n:Int} {a:List UInt8} {ents:Array MapEntry} {ks:List (Int×List UInt8)} (he:VN (mK ks) ents):
 (ks.contains (n,a)=false/\(Instr.findKey k (prV n a) ents.toList).run P w= .ok none w)\/∃j,ks.contains (n,a)=true/\(Instr.findKey k (prV n a) ents.toList).run P w= .ok (some (j,.bool true)) w:=by
 have hp:=yQ hk w n a ents.toList ks 0 he;obtain ⟨f,g,hu,_⟩:=YN hk;unfold Instr.findKey;simp only [Sem.run_bind,run_underlying hu,Result.andThen_ok];cases hl:ents.toList with
 |nil=>
  rw [hl] at hp;simpa [Instr.findNow,Instr.findAsking] using hp
 |cons m l=>
  rw [hl] at hp
  have hn:Instr.findNow (.struct #[f,g]) (prV n a) (m::l) 0=none:=by
   unfold Instr.findNow Instr.sameNow;rfl
  rw [hn];exact hp
def VR.pair {n:Int} (h:VR g (.agg [.d (.int .i64 n),.d (.str s)]) u):u=prV n s:=by
 cases h with
 |@agg _ vs hl hc h=>
  match vs,hl with
  |[x,y],_=>
   have h0:=h 0 _ _ rfl rfl;have h1:=h 1 _ _ rfl rfl;cases h0 with|d h0=>
   cases h0;cases h1 with|d h1=>
   cases h1;rfl
def ARK (hr:ExR Y R .AA3 [p,q]):∃t ks n s,p= .om t (mK ks)/\q= .agg [.d (.int .i64 n),.d (.str s)]/\Y.tok t=true/\R (.d (.bool (ks.contains (n,s)))) Y:=by
 unfold ExR at hr
 split at hr<;>first
  |exact hr.elim
  |(rename_i h1;cases h1;done)
  |(rename_i h1 h2;cases h1;done)
  |(rename_i h1 h2;cases h2;obtain ⟨ht,ks,rfl,hR⟩:=hr;exact ⟨_,ks,_,_,rfl,rfl,ht,hR⟩)
  |(rename_i h1 h2;cases h1;cases h2;obtain ⟨ht,ks,rfl,hR⟩:=hr;exact ⟨_,ks,_,_,rfl,rfl,ht,hR⟩)
  |skip
def AH9 (hm:P.underlying mt=some (.map k e)) (hk:MO P k=true) (hz:zB P e=true) (h:Bh base g lam Pr N F L Y a w0 w) (hv:VR g p v) (hu:VR g q u)
 (hr:ExR Y R .AA3 [p,q]):J0 P (Instr.lookup mt v u false) base g lam Pr N F L a w0 w R:=by
 obtain ⟨t,ks,n,s,rfl,rfl,ht,hR⟩:=ARK hr;obtain rfl:=hu.pair;obtain ⟨b,ents,clock,rfl,_,hw,he,_⟩:=AA7 h hv ht;unfold zB at hz;split at hz
 case h_2=>cases hz
 rename_i ie hie;split at hz
 case h_2=>cases hz
 rename_i hzz;refine ⟨.bool (ks.contains (n,s)),g,w,_,Y,?_,Gh.le_refl g,KP.refl Pr w,.d .bool,h,hR⟩;rcases gD (w:=w) (n:=n) (a:=s) hk he with ⟨h1,h2⟩|⟨j,h1,h2⟩
 . rw [h1];simp [Instr.lookup,run_underlying hm,MapKept.run_getObj_map hw,sQ hk w,h2,zeroValue,typeInfo,hie,hzz]
 . rw [h1];simp [Instr.lookup,run_underlying hm,MapKept.run_getObj_map hw,sQ hk w,h2]
def ANM (hm:P.underlying mt=some (.map k e)) (hk:MO P k=true)
 (h:Bh base g lam Pr N F L Y a w0 w) {t:Nat} {ks:List (Int×List UInt8)} {n:Int} {x:List UInt8} (hv:VR g (.om t (mK ks)) v) (hu:VR g (.agg [.d (.int .i64 n),.d (.str x)]) u) (hz:VR g (.d (.bool true)) z) (ht:Y.tok t=true) (hno:(n,x) ∉ ks):
 ∃g' w' t',(Instr.mapUpdate mt v u z).run P w= .ok () w'/\g.le g'/\KP Pr w w'/\Y.tok t'=false/\Bh base g' lam Pr N (reF t (.om t' (mK (ks++[(n,x)]))) F) L ((Y.CP t).Bq t') a w0 w':=by
 obtain rfl:=hu.pair;cases hz with|d hz=>
 cases hz;rw [show mK (ks++[(n,x)])=mK ks++[(.inr (n,x),1)] from by simp [mK]];refine yJ (mt:=mt) (p:=(.inr (n,x),1)) h hv ht fun b ents clock hw he=>?_;rcases gD (w:=w) (n:=n) (a:=x) hk he with ⟨_,h2⟩|⟨j,h1,_⟩
 case inr=>exact absurd (by simpa using h1) hno
 simp [Un,kV,Instr.mapUpdate,run_underlying hm,MapKept.run_getObj_map hw,sQ hk w,h2,MapKept.run_setObj_map _ hw,Result.andThen]
variable {P:Program} {base N:Nat} {g g':Gh} {Pr:Nat->Prop} {Y σ':AH} {w0 w w':World} {lam:Nat->Option Nat} {F:Fm} {L:Lm} {a:Act}
abbrev CW:=Fm->Lm->AH->Prop
variable {K K':CW}
def CT (P:Program) (f:FuncId):Bool:=((P.funcs[f]?).bind (·.body)).isSome&&((P.funcs[f]?).map (·.name)) != some "runtime.NumGoroutine"
def AI (P:Program) (f:FuncId) (args:List AV) (dst:Option Nat) (K:CW) (F:Fm) (L:Lm) (Y:AH):Prop:=
 args.all AV.BS=true/\∃Q,AR P f args Y Q/\∀v σ',Q v σ'->K (BL dst v F) L σ'
def pM (P:Program) (f:FuncId) (args:List AV) (dst:Option Nat) (K:CW) (F:Fm) (L:Lm) (Y:AH):Prop:=
 args.all AV.BS=true/\∃v,(v.BS=true/\AR P f args Y (fun v' σ'=>v'=v/\σ'=Y))/\K (BL dst v F) L Y
def Dh (e size bytes:Nat) (s x:AV) (dst:Option Nat) (K:CW) (F:Fm) (L:Lm) (Y:AH):Prop:=
 (∃rows σ1 srows,O2 Y e size s=some (rows,σ1)/\x.rows=some srows/\(∀r∈srows,r.length=size)/\rows.length+srows.length<=maxLen/\(rows.length+srows.length) * bytes<=140737488355328/\
   ∀t,Y.tok t=false->K (BL dst (.own t e size (rows++srows)) F) L (σ1.Bq t))\/
 (∃rows srows,s= .clip rows/\x.rows=some srows/\(∀r∈rows,r.length=size)/\(∀r∈srows,r.length=size)/\rows.length+srows.length<=maxLen/\(rows.length+srows.length) * bytes<=140737488355328/\
   K (BL dst (.d (.sl (rows++srows))) F) L Y)
def Z0 (cs:List AV) (sh:Bool) (dst:Option Nat) (K:CW) (F:Fm) (L:Lm) (Y:AH):Prop:=
 Ax cs=true/\match dst with
  |none=>False
  |some d=>if sh then ∀i,Y.blk i=none->K (put d (.gp i 0) F) L (Y.AL i cs) else K (put d (.lp d 0) (Dp d F)) (At d cs L) Y
def XSt (x v:AV) (n:Nat) (dst:Option Nat) (K:CW) (F:Fm) (L:Lm) (Y:AH):Prop:=
 dst=none/\Ax v.cells=true/\v.cells.length=n/\match stA L Y v.cells x with
  |some (L',σ')=>K F L' σ'
  |none=>False
def PO (e size bytes:Nat) (s x:AV) (dst:Option Nat) (K:CW) (F:Fm) (L:Lm) (Y:AH):Prop:=
 ∃n cs σ1 srows,OI Y e size s=some (n,cs,σ1)/\x.rows=some srows/\(∀r∈srows,r.length=size)/\(srows=[]->K (BL dst s F) L Y)/\n+srows.length<=maxLen/\(n+srows.length) * bytes<=140737488355328/\
  (srows≠[]->∀j,Y.blk j=none->K (BL dst (.ms j (n+srows.length) size e) F) L (σ1.AL j (cs++E9 srows)))
def AXX (x h:AV) (dst:Option Nat) (K:CW) (F:Fm) (L:Lm) (Y:AH):Prop:=
 ∃k s e cs σ1,AZI Y x h=some (k,s,e,cs,σ1)/\∀j,Y.blk j=none->K (BL dst (.ms j k s e) F) L (σ1.AL j cs)
def XK (e size len:Nat) (cells:Option (List AV)) (dst:Option Nat) (K:CW) (F:Fm) (L:Lm) (Y:AH):Prop:=
 ∃cs,cells=some cs/\((∀j,Y.blk j=none->K (BL dst (.ms j len size e) F) L (Y.AL j cs))\/
  (∃ds,dvs cs=some ds/\∀t,Y.tok t=false->K (BL dst (.own t e size (chunk size len ds)) F) L (Y.Bq t)))
def O1 (e size bytes:Nat) (z:List AV) (l c:AV) (dst:Option Nat) (K:CW) (F:Fm) (L:Lm) (Y:AH):Prop:=
 ∃k k' n,l= .d (.int k n)/\c= .d (.int k' n)/\0<=n/\bytes * n<=281474976710656/\n<=9223372036854775807/\
  ∀i,Y.blk i=none->K (BL dst (.ms i n.toNat size e) F) L (Y.AL i (AG n.toNat z).flatten)
def XPv (v:Option AV) (dst:Option Nat) (K:CW) (F:Fm) (L:Lm) (Y:AH):Prop:=
 match v with
 |some v=>K (BL dst v F) L Y
 |none=>False
def XEx (k:EK) (args:List AV) (dst:Option Nat) (K:CW) (F:Fm) (L:Lm) (Y:AH):Prop:=
 if k.pure then XPv (exP k args) dst K F L Y else args.all AV.BS=true/\ExR Y (fun v σ'=>K (BL dst v F) L σ') k args
def aK (s:Bool) (m k v:AV) (dst:Option Nat) (K:CW) (F:Fm) (L:Lm) (Y:AH):Prop:=
 dst=none/\∃t,Y.tok t=true/\match s with
  |false=>∃es n x,m= .om t (mI es)/\k= .d (.int .i64 n)/\v= .d (.int .i64 x)/\es.lookup n=none/\∀t',Y.tok t'=false->K (reF t (.om t' (mI (es++[(n,x)]))) F) L ((Y.CP t).Bq t')
  |true=>∃ks n x,m= .om t (mK ks)/\k= .agg [.d (.int .i64 n),.d (.str x)]/\v= .d (.bool true)/\(n,x) ∉ ks/\∀t',Y.tok t'=false->K (reF t (.om t' (mK (ks++[(n,x)]))) F) L ((Y.CP t).Bq t')
def XO (P:Program) (dst:Option Nat) (K:CW) (F:Fm) (L:Lm) (Y:AH):O->Prop
 | .box x sh=>Z0 (xv F x).cells sh dst K F L Y
 | .al z sh=>Z0 z sh dst K F L Y
 | .st x v n=>XSt (xv F x) (xv F v) n dst K F L Y
 | .msl e size bytes z l c=>O1 e size bytes z (xv F l) (xv F c) dst K F L Y
 | .uV e size bytes s x=>PO e size bytes (xv F s) (xv F x) dst K F L Y
 | .trn x h=>AXX (xv F x) (xv F h) dst K F L Y
 | .mW e size len z ps=>XK e size len (Jz z F ps) dst K F L Y
 | .app e size bytes s x=>Dh e size bytes (xv F s) (xv F x) dst K F L Y
 | .call f args=>AI P f (xvs F args) dst K F L Y
 | .aR x args=>∃f first caps,xv F x= .fn f first caps/\CT P f=true/\AI P f (first++xvs F args++caps) dst K F L Y
 | .mF f args=>pM P f (xvs F args) dst K F L Y
 | .ex k xs=>XEx k (xvs F xs) dst K F L Y
 | .fT s m k v=>aK s (xv F m) (xv F k) (xv F v) dst K F L Y
 |o=>XPv (pv F L Y o) dst K F L Y
def FL (base:Nat) (Pr:Nat->Prop) (N:Nat) (w0:World) (g:Gh) (w:World) (K:CW) (a':Act) (w':World):Prop:=
 ∃g' lam' F' L' σ',g.le g'/\KP Pr w w'/\Bh base g' lam' Pr N F' L' σ' a' w0 w'/\K F' L' σ'
def FL.trans {K:CW} {a':Act} {g1:Gh} {w1:World} (hg:g.le g1) (hk:KP Pr w w1) (h:FL base Pr N w0 g1 w1 K a' w'):FL base Pr N w0 g w K a' w':=by
 obtain ⟨g',lam',F',L',σ',h1,h2,h3,h4⟩:=h;exact ⟨g',lam',F',L',σ',Gh.le_trans hg h1,hk.trans h2,h3,h4⟩
def HB {x:Value} {next:Act->World->Prop} {Q:Exit->Act->World->Prop} (hr:(execOp a.eval o).run P w= .ok (.value x) w') (h:next (a.put o.dst x) w'):o.wp P a w next Q:=by
 unfold Oper.wp;rw [hr];exact h
def CD {sh im:Bool} (hc:xQ P sh im lc o.op=some c) (hd:∀k,o.dst=some k->k < N) (Z:XPv (pv F L Y c) o.dst K F L Y)
 (h:Bh base g lam Pr N F L Y a w0 w) {Q:Exit->Act->World->Prop}:o.wp P a w (FL base Pr N w0 g w K) Q:=by
 cases hv:pv F L Y c with
 |none=>rw [hv] at Z;exact Z.elim
 |some v=>
  rw [hv] at Z;obtain ⟨x,g',w',hr,h1,h2,h3,h4⟩:=ASC hc hv base g lam Pr N a w0 w h;exact HB hr ⟨g',lam,_,L,Y,h1,h2,h4.BL hd h3,Z⟩
def uP {vs:Array Value} {sh:Bool} (hd:∀k,o.dst=some k->k < N) (Z:Z0 cs sh o.dst K F L Y)
 (h:Bh base g lam Pr N F L Y a w0 w) (hr:VRs g cs vs.toList) (hrun:(execOp a.eval o).run P w= .ok (.value (.pointer (some ⟨w.heap.size,0,none⟩))) (w.alloc (.cells vs ty)))
 {Q:Exit->Act->World->Prop}:o.wp P a w (FL base Pr N w0 g w K) Q:=by
 obtain ⟨hok,Z⟩:=Z;refine HB hrun ?_;cases hdst:o.dst with
 |none=>rw [hdst] at Z;exact Z.elim
 |some d=>
  rw [hdst] at Z;have hdn:=hd d hdst;have hkp:KP Pr w (w.alloc (.cells vs ty)):=⟨by simp,fun b hb=>heap_alloc_old w _ b (h.rel.pr b (.inl hb)).1⟩;cases sh with
  |false=>
   simp only [A1,if_false] at Z
   have h':Bh base g lam Pr N (Dp d F) L Y a w0 w:=by
    refine ⟨fun s=>?_,h.sz,h.df,h.loc,h.inj,h.npr,h.rel⟩;simp only [Dp];split
    . exact VR.undef
    . exact h.tm s
   exact ⟨g,_,_,_,Y,Gh.le_refl g,hkp,h'.ARP hdn (AFU d F) ty hr hok,Z⟩
  |true=>
   simp only [if_true] at Z;obtain ⟨i,hmu,_,hblk,_⟩:=h.rel.fresh;have hrel:=h.rel.share (rt:=none) hmu (AS _) (h.rel.alloc (.cells vs ty)) (heap_alloc_new w _) (fun _ h=>by cases h) hr hok (fun hp=>by have:=(h.rel.pr _ hp).1;omega);have hle:=Gh.N1 (g:=g) (i:=i) (b:=w.heap.size) (rt:=none) hmu;have hf:=h.step hle (fun k b hb=>heap_alloc_old w _ b (h.Kx hb)) hrel;exact ⟨_,lam,_,L,_,hle,hkp,hf.put hdn (v:= .gp i 0) (SV.FT (.gp (by simp [Gh.share]))),Z i hblk⟩
def AO5 {t:TypeId} {z:Operand} {x xv':X} (ho:o.op= .store t y z) (hy:xo y=some x) (hz:xo z=some xv') (hn:szT P t=some n) 
 (Z:XSt (xv F x) (xv F xv') n o.dst K F L Y) (h:Bh base g lam Pr N F L Y a w0 w) {Q:Exit->Act->World->Prop}:o.wp P a w (FL base Pr N w0 g w K) Q:=by
 obtain ⟨hdst,hok,hlen,Z⟩:=Z;cases hst:stA L Y (xv F xv').cells (xv F x) with
 |none=>rw [hst] at Z;exact Z.elim
 |some r=>
  obtain ⟨L',σ'⟩:=r;rw [hst] at Z;have hv:=(Ah hz h).vr (Uk hok);have hc:=hv.cells hok;obtain ⟨ad,w',hp,hrun,hk,hf⟩:=h.store (P:=P) (Ah hy h) hc hok hst;have hsz:(a.eval z).cells.size=n:=by have:=hc.length;simpa [hlen] using this
  have:(execOp a.eval o).run P w= .ok .skip w':=by
   unfold execOp;simp only [ho,hp,Instr.storeAt,Instr.sureAddr,storeVar,Sem.run_bind,Sem.run_pure,Result.andThen_ok,Ew hn];simp [hsz,hrun]
  unfold Oper.wp;rw [this];show FL base Pr N w0 g w K (a.put o.dst Cl) w';rw [hdst];exact ⟨g,lam,F,L',σ',Gh.le_refl g,hk,hf,Z⟩
def AJM {t:TypeId} {zv:Value} {z:Operand} {x xs:X} (ho:o.op= .call { callee:= .builtin .append,args:=#[y,z],argTypes:=#[t,t]})
 (hy:xo y=some xs) (hz:xo z=some x) (ht:P.underlying t=some (.slice e)) (hi:P.info? e=some i) (hzv:i.zero=some zv) (hzs:zv.cells.size=i.size) (hd:∀k,o.dst=some k->k < N) 
 (Z:Dh e i.size i.bytes (xv F xs) (xv F x) o.dst K F L Y) (h:Bh base g lam Pr N F L Y a w0 w) {Q:Exit->Act->World->Prop}:o.wp P a w (FL base Pr N w0 g w K) Q:=by
 rcases Z with ⟨rows,σ1,srows,hpa,hqr,hss,h63,hby,hk⟩|⟨rows,srows,hs,hqr,hrs,hss,h63,hby,hk⟩
 case inr=>
  obtain ⟨v,g',w',hrun,hle,hkp,hvr,hf⟩:=AGN (ty:=o.type) ht hi hzv hzs h (hs ▸ Ah hy h) (Ah hz h) hqr hrs hss h63 hby
  refine HB (x:=v) (w':=w') ?_ ⟨g',lam,_,L,_,hle,hkp,hf.BL hd (SV.FT hvr),hk⟩;unfold execOp;simp [ho,resolve,invoke,builtin,hrun]
 obtain ⟨v,g',w',t',hrun,hle,hkp,htok,hvr,hf⟩:=ALH (ty:=o.type) ht hi hzv hzs h (Ah hy h) (Ah hz h) hpa hqr hss h63 hby
 refine HB (x:=v) (w':=w') ?_ ⟨g',lam,_,L,_,hle,hkp,hf.BL hd (SV.FT hvr),hk t' htok⟩;unfold execOp;simp [ho,resolve,invoke,builtin,hrun]
def mO {f:FuncId} {args:List AV} (hrun:(execOp a.eval o).run P w= .ok (.enter f vs.toArray) w) (hd:∀k,o.dst=some k->k < N) 
 (hv:VRs g args vs) (Z:AI P f args o.dst K F L Y) (h:Bh base g lam Pr N F L Y a w0 w) {Q:Exit->Act->World->Prop}:o.wp P a w (FL base Pr N w0 g w K) Q:=by
 obtain ⟨_,R,hR,hk⟩:=Z;unfold Oper.wp;rw [hrun];refine (hR base g _ w0 w vs h.rel hv).mono fun e w' ⟨v,av,g',σ',he,hvr,hrel,hle,hkp,hq⟩=>?_;subst he;have hf:=h.step hle (fun k b hb=>hkp.2 b (.inr ⟨k,hb⟩)) hrel;exact ⟨g',lam,_,L,σ',hle,⟨hkp.1,fun b hb=>hkp.2 b (.inl hb)⟩,hf.BL hd (SV.FT hvr),hk av σ' hq⟩
def gR {f:FuncId} (hb:CT P f=true) (args:Array Value):(callFunc f args).run P w= .ok (.enter f args) w:=by
 unfold CT at hb;simp only [AO] at hb;obtain ⟨h1,h2⟩:=hb;cases hf:P.funcs[f]? with
 |none=>simp [hf] at h1
 |some fn=>
  simp only [hf,E6] at h1;have h3:fn.name≠ "runtime.NumGoroutine":=by simpa [hf] using h2
  have h4:fn.body≠none:=by cases hbd:fn.body<;>simp [hbd] at h1 ⊢
  unfold callFunc;simp [hf,h3,h4]
def D4 {n:Int} (h0:0<=n) (h1:n<=9223372036854775807):IntKind.i64.wrap n=n:=by
 unfold IntKind.wrap;simp only [IntKind.signed,IntKind.bits];have e:n % (2 ^ 64:Int)=n:=Int.emod_eq_of_lt h0 (by omega);simp only [e];rw [if_neg (by simp;omega)]
def AJN {t:TypeId} {z:List AV} {y2:Operand} {x x2:X} (ho:o.op= .makeSlice t y y2) (hy:xo y=some x) (hy2:xo y2=some x2)
 (he:T3 P t=some e) (hi:P.info? e=some i) (hz:WK P e=some z) (hzn:z.length=i.size/\0 < i.size) (hd:∀k,o.dst=some k->k < N) 
 (Z:O1 e i.size i.bytes z (xv F x) (xv F x2) o.dst K F L Y) (h:Bh base g lam Pr N F L Y a w0 w) {Q:Exit->Act->World->Prop}:o.wp P a w (FL base Pr N w0 g w K) Q:=by
 obtain ⟨k,k',n,h1,h2,h0,hb,hm,hk⟩:=Z;have hs1:=Ah hy h;have hs2:=Ah hy2 h;rw [h1] at hs1;rw [h2] at hs2;have e1:a.eval y= .int k n:=by generalize a.eval y=vy at hs1;cases hs1 with|d hh=>cases hh;rfl
 have e2:a.eval y2= .int k' n:=by generalize a.eval y2=vy at hs2;cases hs2 with|d hh=>cases hh;rfl
 obtain ⟨i',zv,hi',hzv,hok,hvr⟩:=KU hz;rw [hi] at hi';cases hi';have hzs:zv.cells.size=i.size:=by have:=(hvr g).length;simp at this;omega
 have hu:=MA he;have hw:=D4 h0 hm
 have hno:¬(i.bytes * n>2 ^ 48):=by have:(2:Int) ^ 48=281474976710656:=by decide
                                    omega
 have harr:((if n.toNat * i.size=0 then pure #[] else do pure (<- zeroValue e).cells:Sem (Array Value))).run P w= .ok (if n.toNat * i.size=0 then #[] else zv.cells) w:=by
  split<;>simp [zeroValue,typeInfo,hi,hzv]
 have hcells:∃arr:Array Value,(execOp a.eval o).run P w= .ok (.value (.slice (some ⟨w.heap.size,0,none⟩) n.toNat n.toNat)) (w.alloc (.cells arr e))/\arr.toList=(AG n.toNat zv.cells.toList).flatten:=by
  by_cases h00:n.toNat * i.size=0
  . refine ⟨#[],?_,?_⟩
    . have hr0:XD 0=#[]:=rfl;unfold execOp;simp only [ho,e1,e2,Instr.makeSlice,Sem.run_bind,B4 hu,Result.andThen_ok,asInt,asIntOf,Sem.run_pure,typeInfo,run_program,hi,hw];have c1:¬((decide (n < 0)||decide (i.bytes * n>2 ^ 48))||decide (n < 0)||decide (n>n))=true:=by simp;omega
      simp only [if_neg c1,Sem.run_bind,run_askRoom,Result.andThen_ok,sizeOf,typeInfo,run_program,hi,Sem.run_pure];simp only [h00,if_true,pure_bind,hr0,Array.map_empty,newRow,Sem.run_bind,run_newObj,Result.andThen_ok,Sem.run_pure,World.alloc_eq]
    . have:n.toNat=0:=by
       rcases Nat.mul_eq_zero.1 h00 with h|h
       . exact h
       . omega
      simp [this]
  . refine ⟨(XD (n.toNat * i.size)).map (zv.cells[· % zv.cells.size]!),?_,range_zero zv.cells i.size hzs hzn.2 n.toNat⟩;unfold execOp;simp only [ho,e1,e2,Instr.makeSlice,Sem.run_bind,B4 hu,Result.andThen_ok,asInt,asIntOf,Sem.run_pure,typeInfo,run_program,hi,hw];have c1:¬((decide (n < 0)||decide (i.bytes * n>2 ^ 48))||decide (n < 0)||decide (n>n))=true:=by simp;omega
    simp only [if_neg c1,Sem.run_bind,run_askRoom,Result.andThen_ok,sizeOf,typeInfo,run_program,hi,Sem.run_pure];simp only [if_neg h00,Sem.run_bind,zeroValue,typeInfo,run_program,Result.andThen_ok,hi,Sem.run_pure,hzv,newRow,run_newObj,World.alloc_eq]
 obtain ⟨arr,hrun,harrl⟩:=hcells;have hr:VRs g (AG n.toNat z).flatten arr.toList:=by rw [harrl];exact (hvr g).flatten _
 have hkp:KP Pr w (w.alloc (.cells arr e)):=⟨by simp,fun b hb=>heap_alloc_old w _ b (h.rel.pr b (.inl hb)).1⟩;obtain ⟨j,hmu,_,hblk,_⟩:=h.rel.fresh
 have hasz:arr.size=n.toNat * i.size:=by
  have h1:arr.toList.length=n.toNat * zv.cells.toList.length:=by rw [harrl,ET]
  simpa [hzs] using h1
 have hrel:=h.rel.share (rt:=some (n.toNat * i.size,e)) hmu (AS _) (h.rel.alloc (.cells arr e)) (heap_alloc_new w _) (fun t ht=>by cases ht;exact ⟨hasz,rfl⟩) hr (J2 hok _) (fun hp=>by have:=(h.rel.pr _ hp).1;omega);have hle:=Gh.N1 (g:=g) (i:=j) (b:=w.heap.size) (rt:=some (n.toNat * i.size,e)) hmu;have hf:=h.step hle (fun k b hb=>heap_alloc_old w _ b (h.Kx hb)) hrel;refine HB hrun ⟨_,lam,_,L,_,hle,hkp,hf.BL hd (v:= .ms j n.toNat i.size e) (SV.FT (.ms (by simp [Gh.share]) (by simp [Gh.share]) (AS _) (by simp only [maxLen];omega))),hk j hblk⟩
def AFM {t:TypeId} {zv:Value} {z:Operand} {x xs:X} (ho:o.op= .call { callee:= .builtin .append,args:=#[y,z],argTypes:=#[t,t]})
 (hy:xo y=some xs) (hz:xo z=some x) (ht:P.underlying t=some (.slice e)) (hi:P.info? e=some i) (hzv:i.zero=some zv) (hzs:zv.cells.size=i.size) (hd:∀k,o.dst=some k->k < N) 
 (Z:PO e i.size i.bytes (xv F xs) (xv F x) o.dst K F L Y) (h:Bh base g lam Pr N F L Y a w0 w) {Q:Exit->Act->World->Prop}:o.wp P a w (FL base Pr N w0 g w K) Q:=by
 obtain ⟨n,cs,σ1,srows,hpa,hqr,hss,hemp,h63,hby,hk⟩:=Z;by_cases hne:srows=[]
 . subst hne;have hsv:=Ah hy h
   have hform:∃ad cap,a.eval y= .slice ad n cap/\n<=cap:=by
    generalize a.eval y=vy at hsv;unfold OI at hpa;split at hpa
    . rename_i heq;rw [heq] at hsv;cases hpa;cases hsv;exact ⟨_,_,rfl,AS _⟩
    . rename_i heq;rw [heq] at hsv;split at hpa
      . simp only [AB] at hpa;obtain ⟨cs0,_,hpa⟩:=hpa;split at hpa
        . cases hpa;cases hsv with
          |ms _ _ hn _=>exact ⟨_,_,rfl,hn⟩
        . cases hpa
      . cases hpa
    . cases hpa
   obtain ⟨ad,cap,hev,hnc⟩:=hform
   obtain ⟨ad2,cap2,hev2⟩:∃ad2 cap2,a.eval z= .slice ad2 0 cap2:=by
    have hq:=Ah hz h;generalize a.eval z=vz at hq
    have hn:(xv F x).BS=true:=by
     generalize xv F x=xx at hqr;cases xx<;>first|rfl|(cases hqr;done)
    obtain ⟨ad2,cap2,he⟩:=tV (hq.vr hn) hqr;exact ⟨ad2,cap2,he⟩
   have hrun:(Builtin.append_ #[t,t] o.type #[.slice ad n cap,.slice ad2 0 cap2]).run P w= .ok (.slice ad n cap) w:=by
    have hfc:∀sz,(Builtin.firstCells sz 0 (.slice ad2 0 cap2)).run P w= .ok #[] w:=fun sz=>by
     cases ad2<;>simp [Builtin.firstCells,loadCells,loadCellsFrom]
    cases ad<;>simp [Builtin.append_,run_underlying ht,sizeOf,typeInfo,hi,Builtin.lenOf,hnc,hfc,storeCells]
   refine HB (x:= .slice ad n cap) (w':=w) ?_ ⟨g,lam,_,L,Y,Gh.le_refl g,KP.refl Pr w,h.BL hd (hev ▸ hsv),hemp rfl⟩;unfold execOp;simp [ho,resolve,invoke,builtin,hev,hev2,hrun]
 obtain ⟨v,g',w',j,hrun,hle,hkp,hblk,hvr,hf⟩:=AFZ (ty:=o.type) ht hi hzv hzs h (Ah hy h) (Ah hz h) hpa hqr hss hne h63 hby
 refine HB (x:=v) (w':=w') ?_ ⟨g',lam,_,L,_,hle,hkp,hf.BL hd (SV.FT hvr),hk hne j hblk⟩;unfold execOp;simp [ho,resolve,invoke,builtin,hrun]
def AJO {t e0:TypeId} {z:Operand} {x xh:X} (ho:o.op= .slice t y none (some z) none) (ht:P.underlying t=some (.slice e0)) (hsz:szT P e0=some sz) (hy:xo y=some x) (hz:xo z=some xh)
 (hd:∀k,o.dst=some k->k < N) (Z:AXX (xv F x) (xv F xh) o.dst K F L Y) (h:Bh base g lam Pr N F L Y a w0 w) {Q:Exit->Act->World->Prop}:o.wp P a w (FL base Pr N w0 g w K) Q:=by
 obtain ⟨k,s,e,cs,σ1,hv,hk⟩:=Z;obtain ⟨v,g',j,hrun,hle,hblk,hvr,hf⟩:=AOT (P:=P) ht hsz h (Ah hy h) (Ah hz h) hv;refine HB (x:=v) (w':=w) ?_ ⟨g',lam,_,L,_,hle,KP.refl Pr w,hf.BL hd (SV.FT hvr),hk j hblk⟩;unfold execOp;simp [ho,hrun]
def AFN {t:TypeId} {len:Nat} {z:List AV} (ho:o.op= .buildSlice t len ps) (he:T3 P t=some e) (hz:WK P e=some z) (hn:szT P e=some n)
 (hzn:z.length=n/\0 < n/\len * n<=4096/\len<=4096) (hp:VS (fun i=>some (i * n,n)) ps.toList=some cps) (hd:∀k,o.dst=some k->k < N) 
 (Z:XK e n len (Jz (AG len z).flatten F cps) o.dst K F L Y) (h:Bh base g lam Pr N F L Y a w0 w) {Q:Exit->Act->World->Prop}:o.wp P a w (FL base Pr N w0 g w K) Q:=by
 obtain ⟨cs,hf,hk⟩:=Z;obtain ⟨hzl,h0,hsmall,hlen⟩:=hzn;obtain ⟨i,zv,hi,hzv,hok,hvr⟩:=KU hz;have hu:=MA he;have hzs:zv.cells.size=n:=by have:=(hvr g).length;simp at this;omega
 have hinit:VRs g (AG len z).flatten ((XD (len * n)).map (zv.cells[· % zv.cells.size]!)).toList:=by
  rw [range_zero zv.cells n hzs h0 len];exact (hvr g).flatten len
 obtain ⟨cells,hfill,hr,hck⟩:=Up h _ ps.toList cps _ _ cs hp hinit (J2 hok len) hf
 have hcl:cells.size=len * n:=by
  have h1:=hr.length;have h2:=Uo F cps _ cs hf;have h3:=ET z len;simp at h1;rw [h1,h2,h3,hzl]
 have hrun:(Instr.buildSlice t len (ps.map fun (i,x)=>(i,a.eval x))).run P w= .ok (.slice (some ⟨w.heap.size,0,none⟩) len len) (w.alloc (.cells cells e)):=by
  have hm:(ps.map fun (i,x)=>(i,a.eval x)).toList=ps.toList.map fun p=>(p.1,a.eval p.2):=by simp
  have hno:¬(len * n>2 ^ 24):=Nat.not_lt.2 (Af hsmall (by decide));unfold Instr.buildSlice;simp only [Sem.run_bind,B4 hu,Result.andThen_ok,Ew hn,hm];rw [if_neg hno];by_cases h00:len * n=0
  . have hr0:XD 0=#[]:=rfl;rw [h00,hr0] at hfill;simp only [h00,if_true,pure_bind,hr0,Array.map_empty] at hfill ⊢;simp only [hfill,Sem.run_bind,newRow,run_newObj,Result.andThen_ok,Sem.run_pure,World.alloc_eq]
  . simp only [if_neg h00,Sem.run_bind,zeroValue,typeInfo,run_program,Result.andThen_ok,hi,Sem.run_pure,hzv,hfill,newRow,run_newObj,World.alloc_eq]
 have hkp:KP Pr w (w.alloc (.cells cells e)):=⟨by simp,fun b hb=>heap_alloc_old w _ b (h.rel.pr b (.inl hb)).1⟩
 have hexec:(execOp a.eval o).run P w= .ok (.value (.slice (some ⟨w.heap.size,0,none⟩) len len)) (w.alloc (.cells cells e)):=by
  unfold execOp;simp [ho,hrun]
 obtain ⟨j,hmu,htau,hblk,htok⟩:=h.rel.fresh;rcases hk with hk|⟨ds,hds,hk⟩;rotate_left
 . have hown:(w.alloc (.cells cells e)).ownsRow base e n (.slice (some ⟨w.heap.size,0,none⟩) len len) (0+len) ([]++cells.toList):=
    ⟨by simp [hcl],.inr ⟨w.heap.size,len,cells,by simp,h.rel.bs,heap_alloc_new w _,by omega,by simp only [maxLen];omega,hcl,by
      rw [Ag,BF,AP (by simp [hcl])]⟩⟩
   have hmine:=uU.nil base g (fun b=>Pr b\/∃k,lam k=some b) Y w e n;have hgb:w.grownBy (w.alloc (.cells cells e)) (Value.ownBlock (.slice (some ⟨w.heap.size,0,none⟩) len len)):=⟨rfl,rfl,rfl,by simp,fun k hk _=>heap_alloc_old w _ k hk⟩
   have hwh:∀k,Value.ownBlock (.slice (some ⟨w.heap.size,0,none⟩) len len)=some k->Value.ownBlock (.slice none 0 0)=some k\/w.heap.size<=k:=fun k hk=>by
    simp only [Value.ownBlock,AM] at hk;exact .inr (Nat.le_of_eq hk)
   have hrel:=h.rel.AYO (m:=len) (news:=cells.toList) hmine hown hgb hwh htau;have hle:=h.rel.pE (news:=cells.toList) hmine hwh htau;have hf2:=h.step hle (fun k b hb=>heap_alloc_old w _ b (h.Kx hb)) hrel;obtain ⟨hll,hrd⟩:=ZG cs ds hds _ (hr.mono hle);have h1:=hr.length
   have hrdv:RD (g.grow (.slice (some ⟨w.heap.size,0,none⟩) len len) e n j ([]++cells.toList)).im (.sl (chunk n len ds)) (.slice (some ⟨w.heap.size,0,none⟩) len len):=
    RD.fresh (cells:=cells.toList) (by simp at h1;omega) (by simp only [maxLen];omega) (by simpa using hcl) (fun o v hv=>by
     simp only [Gh.grow,Value.ownBlock,if_true,Ag];exact hv) hrd
   refine HB (x:= .slice (some ⟨w.heap.size,0,none⟩) len len) (w':=w.alloc (.cells cells e)) hexec ⟨_,lam,_,L,_,hle,hkp,hf2.BL hd (v:= .own j e n (chunk n len ds)) (SV.FT (.own hrdv (by simp [Gh.grow]) (fun r hr'=>?_))),hk j htok⟩;obtain ⟨k,hk1,rfl⟩:=Bv hr';have hkl:k < len:=by rw [Fu] at hk1;exact hk1
   have:=ZA n len ds k hkl;rw [Ay hk1] at this;rw [Kc this,B5,Df];have hdl:ds.length=len * n:=by simp at h1;omega
   have h2:(k+1) * n<=len * n:=Bi _ hkl;rw [Bs] at h2;omega
 have hrel:=h.rel.share (rt:=some (len * n,e)) hmu (AS _) (h.rel.alloc (.cells cells e)) (heap_alloc_new w _) (fun t ht=>by cases ht;exact ⟨hcl,rfl⟩) hr hck (fun hp=>by have:=(h.rel.pr _ hp).1;omega);have hle:=Gh.N1 (g:=g) (i:=j) (b:=w.heap.size) (rt:=some (len * n,e)) hmu;have hf2:=h.step hle (fun k b hb=>heap_alloc_old w _ b (h.Kx hb)) hrel;refine HB (x:= .slice (some ⟨w.heap.size,0,none⟩) len len) (w':=w.alloc (.cells cells e)) ?_ ⟨_,lam,_,L,_,hle,hkp,hf2.BL hd (v:= .ms j len n e) (SV.FT (.ms (by simp [Gh.share]) (by simp [Gh.share]) (AS _) (by simp only [maxLen];omega))),hk j hblk⟩;exact hexec
def AFO {sh im:Bool} (hc:xQ P sh im lc o.op=some c) (hd:∀k,o.dst=some k->k < N) (Z:XO P o.dst K F L Y c)
 (h:Bh base g lam Pr N F L Y a w0 w) {Q:Exit->Act->World->Prop}:o.wp P a w (FL base Pr N w0 g w K) Q:=by
 have hc0:=hc;cases hop:o.op<;>rw [hop] at hc<;>simp only [xQ] at hc
 case alloc t=>
  simp only [AK] at hc;obtain ⟨z,hz,rfl⟩:=hc;obtain ⟨i,zv,hi,hzv,hok,hvr⟩:=KU hz;exact uP (ty:=t) hd Z h (hvr g) (by unfold execOp;simp [hop,Instr.alloc,zeroValue,typeInfo,hi,hzv,newVar,newRow])
 case box t y=>
  simp only [AK] at hc;obtain ⟨x,hxo,rfl⟩:=hc;cases im
  case true=>exact CD hc0 hd Z h
  have Z:Z0 (xv F x).cells sh o.dst K F L Y:=Z;have hok:Ax (xv F x).cells=true:=Z.1;have hv:=((Ah hxo h).vr (Uk hok)).cells hok;exact uP (ty:=t) hd Z h hv (by unfold execOp;simp [hop,Instr.box,newVar,newRow])
 case store t y z=>
  simp only [AT,AB] at hc;obtain ⟨x,hxo,x2,hxo2,n,hn,he⟩:=hc;cases he;exact AO5 hop hxo hxo2 hn Z h
 case makeSlice t l cc=>
  simp only [AT,AB] at hc;obtain ⟨e,he,i,hi,z,hz,hh⟩:=hc;split at hh
  . rename_i hcond;simp only [AB] at hh;obtain ⟨xl,hxl,xc,hxc,hh⟩:=hh;cases hh;exact AJN hop hxl hxc he hi hz hcond hd Z h
  . cases hh
 case call cl=>
  obtain ⟨callee,⟨args⟩,⟨argTypes⟩⟩:=cl;unfold eQ at hc;cases callee with
  |invoke r m=>cases hc
  |value fo=>
   cases fo<;>simp only at hc
   . rename_i n;simp only [AK] at hc;obtain ⟨xs,hxs,rfl⟩:=hc;obtain ⟨f,first,caps,hfn,hbody,Z⟩:=Z;have hall:=Z.1;simp only [ZV,AO] at hall;have hs:SV g lam (.fn f first caps) (a.tmps.getD n Cl):=by have:=h.tm n;simp only [xv] at hfn;rwa [hfn] at this
     have hargs:=UY h args xs hxs hall.1.2;generalize hvn:a.tmps.getD n Cl=vn at hs;cases hs with
     |@fn _ _ _ fs cs hl hl' h1 h2=>
      refine mO (vs:=fs++args.map a.eval++cs) ?_ hd (((VRs.So _ _ hl h1).append hargs).append (VRs.So _ _ hl' h2)) Z h;unfold execOp;simp only [hop,resolve,Act.eval,hvn,Deferred.ofValue,Sem.run_bind,Sem.run_pure,Result.andThen_ok,invoke];rw [gR hbody];simp
   . cases hc
   . cases hc
   . rename_i f;split at hc
     . rename_i hb;simp only [AK] at hc;obtain ⟨xs,hxs,rfl⟩:=hc;have hall:(xvs F xs).all AV.BS=true:=Z.1;refine mO (vs:=args.map a.eval) ?_ hd (UY h args xs hxs hall) Z h;unfold execOp;simp only [hop,resolve,Act.eval,Deferred.ofValue,Sem.run_bind,Sem.run_pure,Result.andThen_ok,invoke];rw [gR hb];simp
     . cases hc
  |builtin b=>
   simp only at hc;unfold AP2 at hc;split at hc
   . rename_i x t
     have:∃x',c= .len x'\/c= .AOL x':=by
      cases hu:P.underlying t with
      |none=>rw [hu] at hc;cases hc
      |some d=>
       rw [hu] at hc;cases d<;>try (cases hc;done)
       . simp only [AK] at hc;obtain ⟨xx,_,rfl⟩:=hc;exact ⟨xx,.inr rfl⟩
       . simp only [AK] at hc;obtain ⟨xx,_,rfl⟩:=hc;exact ⟨xx,.inl rfl⟩
     obtain ⟨x',rfl|rfl⟩:=this
     . exact CD hc0 hd Z h
     . exact CD hc0 hd Z h
   . simp only [AT,AB] at hc;obtain ⟨x,_,x2,_,hh⟩:=hc;cases hh;exact CD hc0 hd Z h
   . simp only [AT,AB] at hc;obtain ⟨x,_,x2,_,x3,_,hh⟩:=hc;cases hh;exact CD hc0 hd Z h
   . simp only [AT,AB] at hc;obtain ⟨x,_,x2,_,hh⟩:=hc;cases hh;exact CD hc0 hd Z h
   . simp only [AT,AB] at hc;obtain ⟨e,he,i,hi,z,hz,hh⟩:=hc;split at hh
     . rename_i hcond;obtain ⟨rfl,hzs,hpos⟩:=hcond;simp only [AB] at hh;obtain ⟨xs,hxs,x,hx',hh⟩:=hh;cases sh
       . cases hh;exact AJM hop hxs hx' (MA he) hi hz hzs hd Z h
       . cases hh;exact AFM hop hxs hx' (MA he) hi hz hzs hd Z h
     . cases hh
   . cases hc
 case move y=>
  simp only [AK] at hc;obtain ⟨x,_,rfl⟩:=hc;exact CD hc0 hd Z h
 case assign y=>
  simp only [AK] at hc;obtain ⟨x,_,rfl⟩:=hc;exact CD hc0 hd Z h
 case extract y i=>
  simp only [AK] at hc;obtain ⟨x,_,rfl⟩:=hc;exact CD hc0 hd Z h
 case nilCheck y=>
  simp only [AK] at hc;obtain ⟨x,_,rfl⟩:=hc;exact CD hc0 hd Z h
 case pick y1 y2 y3=>
  simp only [AT,AB] at hc;obtain ⟨_,_,_,_,_,_,he⟩:=hc;cases he;exact CD hc0 hd Z h
 case fieldAddr s y f=>
  simp only [AT,AB] at hc;obtain ⟨_,_,_,_,he⟩:=hc;cases he;exact CD hc0 hd Z h
 case load t y=>
  simp only [AT,AB] at hc;obtain ⟨_,_,_,_,he⟩:=hc;cases lc
  . cases he;exact CD hc0 hd Z h
  . cases he;exact CD hc0 hd Z h
 case indexAddr t y i=>
  simp only [AT,AB] at hc;obtain ⟨_,_,_,_,_,_,_,_,he⟩:=hc;cases he;exact CD hc0 hd Z h
 case index t y i=>
  split at hc
  . simp only [AT,AB] at hc;obtain ⟨_,_,_,_,he⟩:=hc;cases he;exact CD hc0 hd Z h
  . cases hc
 case field s y f=>
  simp only [AT,AB] at hc;obtain ⟨_,_,_,_,_,_,he⟩:=hc;cases he;exact CD hc0 hd Z h
 case slice t y lo hi mx=>
  cases hu:P.underlying t with
  |none=>rw [hu] at hc;cases hc
  |some d=>
   rw [hu] at hc;cases d<;>try (cases hc;done)
   . cases mx with
     |some _=>cases hc
     |none=>
      simp only [AT,AB] at hc;obtain ⟨x,hx',xl,hxl,xh,hxh,hh⟩:=hc;cases hh;exact CD hc0 hd Z h
   . rename_i e;cases sh
     . simp only [A1,if_false,AT,AB] at hc;obtain ⟨x,hx',xl,hxl,xh,hxh,xm,hxm,sz,hsz,hh⟩:=hc;cases hh;exact CD hc0 hd Z h
     . simp only [if_true] at hc;obtain ⟨rfl,z,rfl,rfl,x,xh,sz,hx',hxh,hsz,rfl⟩:=zC hc;exact AJO hop hu hsz hx' hxh hd Z h
 case binOp op t y z t2=>
  cases hu:P.underlying t with
  |none=>rw [hu] at hc;cases hc
  |some dd=>
  rw [hu] at hc;cases dd<;>try (cases hc;done)
  case pointer e=>
   obtain ⟨_,ne,x,_,_,rfl⟩:=sT hc;exact CD hc0 hd Z h
  case struct fs=>
   have hc:(if Tp P t then y7 op fs.size y z else none)=some c:=hc;split at hc
   . obtain ⟨ne,x,xi,_,_,_,rfl⟩:=tX hc;exact CD hc0 hd Z h
   . cases hc
  all_goals first
   |(cases hc;done)
   |(simp only [AT,AB] at hc
     obtain ⟨_,_,_,_,he⟩:=hc;cases he;exact CD hc0 hd Z h)
 case unOp op t y=>
  simp only [AT,AB] at hc;obtain ⟨_,_,he⟩:=hc;cases he;exact CD hc0 hd Z h
 case convert s t y=>
  split at hc
  . simp only [AT,AB] at hc;obtain ⟨_,_,he⟩:=hc;cases he;exact CD hc0 hd Z h
  . cases hc
 case build t ps=>
  simp only [AT,AB] at hc;obtain ⟨_,_,_,_,_,_,he⟩:=hc;cases he;exact CD hc0 hd Z h
 case buildSlice t len ps=>
  simp only [AT,AB] at hc;obtain ⟨_,_,_,_,_,_,hh⟩:=hc;split at hh
  . rename_i hcond;simp only [AB] at hh;obtain ⟨cps,hcps,hh⟩:=hh;cases sh
    . cases hh;exact CD hc0 hd Z h
    . cases hh;exact AFN hop ‹_› ‹_› ‹_› hcond hcps hd Z h
  . cases hh
 case makeFunc fn first caps=>
  cases fn<;>simp only [AT,AB] at hc<;>try (cases hc;done)
  obtain ⟨_,_,_,_,hh⟩:=hc;cases hh;exact CD hc0 hd Z h
 all_goals (cases hc;done)
def gZ (ho:∀x w',m.run P w= .ok x w'->(execOp a.eval o).run P w= .ok (.value x) w') (hd:∀k,o.dst=some k->k < N)
 (h:J0 P m base g lam Pr N F L a w0 w (fun v σ'=>K (BL o.dst v F) L σ')) {Q:Exit->Act->World->Prop}:o.wp P a w (FL base Pr N w0 g w K) Q:=by
 obtain ⟨x,g',w',v,σ',hrun,hle,hkp,hvr,hf,hR⟩:=h;exact HB (ho x w' hrun) ⟨g',lam,_,L,σ',hle,hkp,hf.BL hd (SV.FT hvr),hR⟩
def AZR (ho:∀x w',m.run P w= .ok x w'->(execOp a.eval o).run P w= .ok (.value x) w') (hd:∀k,o.dst=some k->k < N) (hf:Bh base g lam Pr N F L Y a w0 w) {v:AV}
 (h:∃x,m.run P w= .ok x w/\VR g v x) (hk:K (BL o.dst v F) L Y) {Q:Exit->Act->World->Prop}:o.wp P a w (FL base Pr N w0 g w K) Q:=by
 obtain ⟨x,hrun,hvr⟩:=h;exact HB (ho x w hrun) ⟨g,lam,_,L,Y,Gh.le_refl g,KP.refl Pr w,hf.BL hd (SV.FT hvr),hk⟩
def AK9 {v:Option AV} (h:XPv v dst K F L Y):∃x,v=some x/\K (BL dst x F) L Y:=by
 cases v with
 |none=>exact h.elim
 |some x=>exact ⟨x,rfl,h⟩
def AJ3 {k:EK} {args:List AV} {v:AV} (h:exP k args=some v):args.all AV.BS=true/\xW k args=some v:=by
 unfold exP at h;split at h
 . exact ⟨by assumption,h⟩
 . cases h
def QC {x:Value} (hr:m.run P w= .ok x w'):((do let v <- m;pure (.value v):Sem Next)).run P w= .ok (.value x) w':=by
 simp only [Sem.run_bind,hr,Result.andThen_ok,Sem.run_pure]
def AO3 {sh im:Bool} (hc:AP3 P sh im o.op=some c) (hd:∀k,o.dst=some k->k < N) (Z:XO P o.dst K F L Y c)
 (h:Bh base g lam Pr N F L Y a w0 w) {Q:Exit->Act->World->Prop}:o.wp P a w (FL base Pr N w0 g w K) Q:=by
 unfold AP3 at hc;split at hc
 . rename_i t hop;split at hc
   . simp only [AK] at hc;obtain ⟨z,hz,rfl⟩:=hc;have Z:([]:List AV).all AV.BS=true/\ExR Y (fun v σ'=>K (BL o.dst v F) L σ') (.alt t z) []:=Z;obtain ⟨x,w',hrun,g',v,σ',h1,h2,h3,h4,h5⟩:=ALF (P:=P) hz h Z.2;exact HB (hrun o hop) ⟨g',lam,_,L,σ',h1,h2,h4.BL hd (SV.FT h3),h5⟩
   . cases hc
 . rename_i op t x y t2 hop;split at hc
   . rename_i e hu;split at hc
     . simp only [AK] at hc;obtain ⟨xx,hxx,rfl⟩:=hc;have Z:[xv F xx].all AV.BS=true/\ExR Y (fun v σ'=>K (BL o.dst v F) L σ') (.wZ false) [xv F xx]:=Z;have hv:=(Ah hxx h).vr (by simpa using Z.1);exact gZ (fun z w' hr=>by unfold execOp;simp only [hop];exact QC hr) hd (tW (ne:=false) hu h hv Z.2 x (.const (.slice none 0 0)))
     . simp only [AK] at hc;obtain ⟨xx,hxx,rfl⟩:=hc;have Z:[xv F xx].all AV.BS=true/\ExR Y (fun v σ'=>K (BL o.dst v F) L σ') (.wZ true) [xv F xx]:=Z;have hv:=(Ah hxx h).vr (by simpa using Z.1);exact gZ (fun z w' hr=>by unfold execOp;simp only [hop];exact QC hr) hd (tW (ne:=true) hu h hv Z.2 x (.const (.slice none 0 0)))
     . cases hc
   . cases hc
 . rename_i mt hop;cases hc;have Z:([]:List AV).all AV.BS=true/\ExR Y (fun v σ'=>K (BL o.dst v F) L σ') .mmk []:=Z;exact gZ (m:=Instr.makeMap mt none) (fun z w' hr=>by unfold execOp;simp only [hop,Option.map_none];exact QC hr) hd (ANL (mt:=mt) h Z.2)
 . rename_i mt x y hop;split at hc
   . rename_i k e hm;split at hc
     . rename_i hcond;simp only [AB,AK] at hc;obtain ⟨xx,hxx,yy,hyy,rfl⟩:=hc;have Z:[xv F xx,xv F yy].all AV.BS=true/\ExR Y (fun v σ'=>K (BL o.dst v F) L σ') .ANK [xv F xx,xv F yy]:=Z;have hn:=Z.1;simp only [BO,Cq,BU,AO] at hn;exact gZ (fun z w' hr=>by unfold execOp;simp only [hop];exact QC hr) hd (AD4 hm hcond.1 hcond.2 h ((Ah hxx h).vr hn.1) ((Ah hyy h).vr hn.2) Z.2)
     . cases hc
   . cases hc
 . rename_i mt x y hop;split at hc
   . rename_i k e hm;split at hc
     . rename_i hcond;simp only [AB,AK] at hc;obtain ⟨xx,hxx,yy,hyy,rfl⟩:=hc;have Z:[xv F xx,xv F yy].all AV.BS=true/\ExR Y (fun v σ'=>K (BL o.dst v F) L σ') .AA3 [xv F xx,xv F yy]:=Z;have hn:=Z.1;simp only [BO,Cq,BU,AO] at hn;exact gZ (fun z w' hr=>by unfold execOp;simp only [hop];exact QC hr) hd (AH9 hm hcond.1 hcond.2 h ((Ah hxx h).vr hn.1) ((Ah hyy h).vr hn.2) Z.2)
     . cases hc
   . cases hc
 . rename_i mt x y z hop;split at hc
   . rename_i k e hm;split at hc
     . rename_i hcond;simp only [AB,AK] at hc;obtain ⟨xx,hxx,yy,hyy,zz,hzz,rfl⟩:=hc;have Z:=(show aK (MO P k) (xv F xx) (xv F yy) (xv F zz) o.dst K F L Y from Z)
       have hfin:∀ {g':Gh} {w':World} {t t':Nat} {es:MEs},(Instr.mapUpdate mt (a.eval x) (a.eval y) (a.eval z)).run P w= .ok () w'->g.le g'->KP Pr w w'->Bh base g' lam Pr N (reF t (.om t' es) F) L ((Y.CP t).Bq t') a w0 w'->o.dst=none->K (reF t (.om t' es) F) L ((Y.CP t).Bq t')->o.wp P a w (FL base Pr N w0 g w K) Q:=by
        intro g' w' t t' es hrun hle hkp hf hdst hk
        have:(execOp a.eval o).run P w= .ok .skip w':=by
         unfold execOp;simp only [hop,Sem.run_bind,hrun,Result.andThen_ok,Sem.run_pure]
        unfold Oper.wp;rw [this];show FL base Pr N w0 g w K (a.put o.dst Cl) w';rw [hdst];exact ⟨g',lam,_,L,_,hle,hkp,hf,hk⟩
       cases hp:MO P k with
       |false=>
        rw [hp] at Z hcond;obtain ⟨hdst,t,ht,es,n,x0,e1,e2,e3,hno,hk⟩:=Z;have h1:=(Ah hxx h).vr (by rw [e1];rfl);have h2:=(Ah hyy h).vr (by rw [e2];rfl);have h3:=(Ah hzz h).vr (by rw [e3];rfl);rw [e1] at h1;rw [e2] at h2;rw [e3] at h3;obtain ⟨g',w',t',hrun,hle,hkp,htok,hf⟩:=AIC (P:=P) hm (cX (hcond.resolve_right (by simp))) h h1 h2 h3 ht hno;exact hfin hrun hle hkp hf hdst (hk t' htok)
       |true=>
        rw [hp] at Z;obtain ⟨hdst,t,ht,es,n,x0,e1,e2,e3,hno,hk⟩:=Z;have h1:=(Ah hxx h).vr (by rw [e1];rfl);have h2:=(Ah hyy h).vr (by rw [e2];rfl);have h3:=(Ah hzz h).vr (by rw [e3];rfl);rw [e1] at h1;rw [e2] at h2;rw [e3] at h3;obtain ⟨g',w',t',hrun,hle,hkp,htok,hf⟩:=ANM (P:=P) hm hp h h1 h2 h3 ht hno;exact hfin hrun hle hkp hf hdst (hk t' htok)
     . cases hc
   . cases hc
 . rename_i cl hop;obtain ⟨callee,⟨args⟩,⟨argTypes⟩⟩:=cl;simp only at hc;split at hc
   . rename_i b;unfold AP4 at hc;split at hc
     . rename_i s x t u;simp only [AB] at hc;obtain ⟨e,he,i,hi,hc⟩:=hc;split at hc
       . split at hc
         . rename_i hcond;obtain ⟨rfl,hpos,hby,hzz⟩:=hcond;obtain ⟨z0,hz0,hzs0⟩:=AK.1 hzz;simp only [AB,AK] at hc;obtain ⟨xs,hxs,xx,hxx,rfl⟩:=hc;have Z:[xv F xs,xv F xx].all AV.BS=true/\ExR Y (fun v σ'=>K (BL o.dst v F) L σ') (.ACF e i.size) [xv F xs,xv F xx]:=Z;have hn:=Z.1;simp only [BO,Cq,BU,AO] at hn;exact gZ (fun z w' hr=>by unfold execOp;simp [hop,resolve,invoke,builtin,hr]) hd (AF1 (ty:=o.type) (MA he) hi h ((Ah hxs h).vr hn.1) ((Ah hxx h).vr hn.2) Z.2 hpos hz0 hzs0 hby)
         . cases hc
       simp only [AB] at hc;obtain ⟨z,hz,hc⟩:=hc;split at hc
       . rename_i hu;split at hc
         . split at hc
           . rename_i hcond;obtain ⟨h1,h2,h3⟩:=hcond;simp only [AB,AK] at hc;obtain ⟨xs,hxs,xx,hxx,rfl⟩:=hc;have Z:[xv F xs,xv F xx].all AV.BS=true/\ExR Y (fun v σ'=>K (BL o.dst v F) L σ') (.apps e) [xv F xs,xv F xx]:=Z;have hn:=Z.1;simp only [BO,Cq,BU,AO] at hn;exact gZ (fun z w' hr=>by unfold execOp;simp [hop,resolve,invoke,builtin,hr]) hd (AF0 (ty:=o.type) (MA he) hu hi hz h1 h2 h ((Ah hxs h).vr hn.1) ((Ah hxx h).vr hn.2) Z.2)
           . cases hc
         . cases hc
       . cases hc
     . rename_i x t;split at hc
       . rename_i e hu;simp only [AK] at hc;obtain ⟨xx,hxx,rfl⟩:=hc;obtain ⟨v,hv,hk⟩:=AK9 (show XPv (exP .usd [xv F xx]) o.dst K F L Y from Z);obtain ⟨hn,hv⟩:=AJ3 hv;exact AZR (fun z w' hr=>by unfold execOp;simp [hop,resolve,invoke,builtin,hr]) hd h (AOZ (ts:=#[t]) (ty:=o.type) ((Ah hxx h).vr (by simpa using hn)) hv) hk
       . cases hc
     . rename_i x y pt it;split at hc
       . rename_i e hu;split at hc
         . rename_i hcond;simp only [AB,AK] at hc;obtain ⟨xs,hxs,xx,hxx,rfl⟩:=hc;have Z:[xv F xs,xv F xx].all AV.BS=true/\ExR Y (fun v σ'=>K (BL o.dst v F) L σ') (.AJG e) [xv F xs,xv F xx]:=Z;have hn:=Z.1;simp only [BO,Cq,BU,AO] at hn;exact gZ (fun z w' hr=>by unfold execOp;simp [hop,resolve,invoke,builtin,hr]) hd (AJH (it:=it) (ty:=o.type) hu hcond.2 h ((Ah hxs h).vr hn.1) ((Ah hxx h).vr hn.2) Z.2)
         . cases hc
       . cases hc
     . rename_i x t;split at hc
       . rename_i k e hm;simp only [AK] at hc;obtain ⟨xx,hxx,rfl⟩:=hc;have Z:[xv F xx].all AV.BS=true/\ExR Y (fun v σ'=>K (BL o.dst v F) L σ') .AIA [xv F xx]:=Z;exact gZ (fun z w' hr=>by unfold execOp;simp [hop,resolve,invoke,builtin,hr]) hd (AD5 (ty:=o.type) hm h ((Ah hxx h).vr (by simpa using Z.1)) Z.2)
       . cases hc
     . cases hc
   . cases hc
 . cases hc
def AGR (P:Program) (sh im lc:Bool) (op:Op):Option O:=
 match AP3 P sh im op with
 |some c=>some c
 |none=>xQ P sh im lc op
def uQ {sh im:Bool} (hc:AGR P sh im lc o.op=some c) (hd:∀k,o.dst=some k->k < N) (Z:XO P o.dst K F L Y c)
 (h:Bh base g lam Pr N F L Y a w0 w) {Q:Exit->Act->World->Prop}:o.wp P a w (FL base Pr N w0 g w K) Q:=by
 unfold AGR at hc;split at hc
 . rename_i he;cases hc;exact AO3 he hd Z h
 . exact AFO hc hd Z h
def xR (P:Program) (N:Nat) (esc:List Nat) (ops:Array Oper) (o:Oper):Option Q:=do
 let c <- AGR P (o.dst.any esc.contains) (o.dst.any fun d=>esc.contains (d+100000)) (o.dst.any fun d=>esc.contains (d+300000)) o.op
 if o.dst.all (· < N) then
  match o.guard with
  |none=>some ⟨o.dst,c,none⟩
  |some (j,want)=>do
   let s <- (ops[j]?).bind (·.dst)
   if s < N then some ⟨o.dst,c,some (s,want)⟩ else none
                                      else none
def P3 (P:Program) (N:Nat) (esc:List Nat) (ops:Array Oper):List Nat->Option (List Q)
 |[]=>some []
 |i::l=>do
  let o <- ops[i]?
  let q <- xR P N esc ops o
  some (q::(<- P3 P N esc ops l))
def gdV (want:Bool):AV->Option Bool
 | .d (.bool b)=>some (b==want)
 | .tup []=>some false
 |_=>none
def gd (F:Fm):Option (Nat×Bool)->Option Bool
 |none=>some true
 |some (s,want)=>gdV want (F s)
def XG (c:Option Bool) (yes no:Prop):Prop:=
 match c with
 |some true=>yes
 |some false=>no
 |none=>False
def XQ (P:Program) (q:Q) (K:CW) (F:Fm) (L:Lm) (Y:AH):Prop:=
 XG (gd F q.grd) (XO P q.dst K F L Y q.o) (K (BL q.dst (.tup []) F) L Y)
def B6 (P:Program) (K:CW):List Q->CW
 |[]=>K
 |q::rest=>XQ P q (B6 P K rest)
def AFP {ops:Array Oper} {esc:List Nat} {i:Nat} {q:Q} (ho:ops[i]?=some o) (hq:xR P N esc ops o=some q) (Z:XQ P q K F L Y)
 (h:Bh base g lam Pr N F L Y a w0 w) {Q:Exit->Act->World->Prop}:wpOp P ops Q i (FL base Pr N w0 g w K) a w:=by
 simp only [xR,AT,AB] at hq;obtain ⟨c,hco,hq⟩:=hq;split at hq
 case isFalse=>cases hq
 rename_i hdst;have hd:∀k,o.dst=some k->k < N:=fun k hk=>by rw [hk] at hdst;simpa using hdst
 have skip:K (BL o.dst (.tup []) F) L Y->FL base Pr N w0 g w K (a.put o.dst Cl) w:=fun Z=>
  ⟨g,lam,_,L,Y,Gh.le_refl g,KP.refl Pr w,h.BL hd (SV.FT (x:= .tup []) (v:=Cl) (VR.tup (cs:=[]) (vs:=[]) rfl (by simp))),Z⟩
 simp only [wpOp,ho];cases hgd:o.guard with
 |none=>
  rw [hgd] at hq;simp only [AM] at hq;subst hq;have Z:XO P o.dst K F L Y c:=Z;have hw:Region.wanted o (yielded ops a.tmps)=true:=by simp [Region.wanted,hgd]
  simp only [hw,if_true];exact .inl (uQ hco hd Z h)
 |some gw=>
  obtain ⟨j,want⟩:=gw;rw [hgd] at hq;simp only [AB] at hq;obtain ⟨s,hs,hq⟩:=hq;split at hq
  case isFalse=>cases hq
  rename_i hsN;cases hq;simp only [XQ,gd] at Z
  have hts:a.tmps[s]?=some (a.tmps.getD s Cl):=by
   have:s < a.tmps.size:=by rw [h.sz];exact hsN
   simp [this]
  have hsv:=h.tm s
  have hyield:∀v,a.tmps.getD s Cl=v->yielded ops a.tmps j=match v with| .bool b=>some b|_=>none:=by
   intro v hv;unfold yielded;obtain ⟨oj,hoj,hdj⟩:=hs;simp only [hoj,E6,hdj,hts,hv];cases v<;>rfl
  generalize hvv:a.tmps.getD s Cl=vv at hsv;have hy:=hyield vv hvv;generalize hFs:F s=fs at hsv Z;unfold gdV at Z;split at Z
  . rename_i b;cases hsv with
    |@d _ _ hh=>
     cases hh with
     |bool=>
      simp only at hy;by_cases hbw:b=want
      . have hw:Region.wanted o (yielded ops a.tmps)=true:=by simp [Region.wanted,hgd,hy,hbw]
        simp only [hw,if_true];simp only [hbw,BEq.rfl,XG] at Z;exact .inl (uQ hco hd Z h)
      . have hw:Region.wanted o (yielded ops a.tmps)=false:=by simp [Region.wanted,hgd,hy,hbw]
        have hb2:(b==want)=false:=by simp [hbw]
        simp only [hw,A1,if_false];simp only [hb2,XG] at Z;exact skip Z
  . cases hsv with
    |tup hl _=>
     simp only at hy;have hw:Region.wanted o (yielded ops a.tmps)=false:=by simp [Region.wanted,hgd,hy]
     simp only [hw,A1,if_false];exact skip Z
  . exact Z.elim
def uR (P:Program) (ops:Array Oper) (N:Nat) (esc:List Nat) (K:CW) {Q:Exit->Act->World->Prop}:∀(l:List Nat) (qs:List Ab.Q) (base:Nat) (g:Gh) (lam:Nat->Option Nat) (Pr:Nat->Prop) (F:Fm) (L:Lm) (Y:AH) (a:Act) (w0 w:World),
 P3 P N esc ops l=some qs->B6 P K qs F L Y->Bh base g lam Pr N F L Y a w0 w->(∀a' w',FL base Pr N w0 g w K a' w'->Q .normal a' w')->wpOps P ops Q l a w
 |[],qs,base,g,lam,Pr,F,L,Y,a,w0,w,hc,Z,h,hQ=>by
  simp only [P3,AM] at hc;subst hc;exact hQ _ _ ⟨g,lam,F,L,Y,Gh.le_refl g,KP.refl Pr w,h,Z⟩
 |i::l,qs,base,g,lam,Pr,F,L,Y,a,w0,w,hc,Z,h,hQ=>by
  simp only [P3,AT,AB] at hc;obtain ⟨o,ho,q,hq,qs',hqs,he⟩:=hc;cases he;rw [wpOps_cons];refine wpOp_mono ?_ (AFP ho hq Z h);rintro a' w' ⟨g',lam',F',L',σ',h1,h2,h3,h4⟩;exact uR P ops N esc K l qs' base g' lam' Pr F' L' σ' a' w0 w' hqs h4 h3 (fun a2 w2 hA=>hQ _ _ (FL.trans h1 h2 hA))
variable {P:Program} {base N:Nat} {g g':Gh} {Pr:Nat->Prop} {Y σ':AH} {w0 w w':World} {lam:Nat->Option Nat} {F:Fm} {L:Lm} {a:Act}
def isV:O->Bool
 | .box _ _| .al _ _| .st _ _ _| .msl _ _ _ _ _ _| .app _ _ _ _ _| .call _ _| .aR _ _| .uV _ _ _ _ _| .trn _ _| .mW _ _ _ _ _| .fT _ _ _ _=>false
 | .ex k _=>k.pure
 |_=>true
def yV:O->Bool
 | .ld _ _| .mF _ _| .ldl _ _=>false
 |o=>isV o
def ARE:O->Bool
 | .ldl _ _=>true
 |o=>yV o
def ABC:O->Bool
 | .st _ _ _| .fT _ _ _ _=>false
 | .box _ sh| .al _ sh=>sh
 |_=>true
def mL:O->Bool
 | .box _ sh| .al _ sh=>sh
 | .fT _ _ _ _=>false
 |_=>true
def TD:X->List Nat
 | .t n=>[n]
 | .c _=>[]
def AE9 (l:List X):List Nat:=l.flatMap TD
def zA:Option X->List Nat
 |none=>[]
 |some x=>TD x
def Ky:O->List Nat
 | .mv x| .fld x _| .ld x _| .len x| .AOL x| .un _ x| .conv _ x| .ext x _| .nck x| .box x _| .ldl x _| .fd x _ _| .AIL _ x| .APP x=>TD x
 | .ssl x lo hi=>TD x++zA lo++zA hi
 | .sls x lo hi mx _=>TD x++zA lo++zA hi++zA mx
 | .mm3 _ x y z| .fT _ x y z=>TD x++TD y++TD z
 | .AI8 _ _ x y=>TD x++TD y
 | .pick x y z=>TD x++TD y++TD z
 | .ix x y _| .AST x y| .bin _ x y| .APN _ x y| .mm _ x y| .st x y _| .msl _ _ _ _ x y| .app _ _ _ x y| .uV _ _ _ x y| .trn x y=>TD x++TD y
 | .bld _ ps| .bsl _ _ _ ps| .mW _ _ _ _ ps=>ps.flatMap fun p=>TD p.2.2
 | .mkf _ x y=>AE9 x++AE9 y
 | .al _ _=>[]
 | .call _ args| .mF _ args| .ex _ args=>AE9 args
 | .aR x args=>TD x++AE9 args
def Q.looks (q:Q):List Nat:=Ky q.o++(match q.grd with|some (s,_)=>[s]|none=>[])
def BY {F:Fm} {x:X} (h:∀s∈TD x,F s=F' s):xv F x=xv F' x:=by
 cases x with
 |t n=>exact h n (by simp [TD])
 |c v=>rfl
def UZ {F:Fm} {x:Option X} (h:∀s∈zA x,F s=F' s):x.map (xv F)=x.map (xv F'):=by
 cases x with
 |none=>rfl
 |some x=>simp only [Ac];rw [BY h]
def Hb {F:Fm} {l:List X} (h:∀s∈AE9 l,F s=F' s):xvs F l=xvs F' l:=by
 unfold xvs;refine FA fun x Z=>BY fun s hs=>h s ?_;exact List.mem_flatMap.2 ⟨x,Z,hs⟩
def RW {F F':Fm}:∀(ps:List (Nat×Nat×X)) (z:List AV),(∀s∈ps.flatMap (fun p=>TD p.2.2),F s=F' s)->Jz z F ps=Jz z F' ps
 |[],z,_=>rfl
 |(off,n,x)::ps,z,h=>by
  have e:xv F x=xv F' x:=BY fun s hs=>h s (by simp [hs]);simp only [Jz,e];rw [RW ps _ (fun s hs=>h s (by simp only [DJ,AZ];exact .inr hs))]
def ASB {F:Fm} {o:O} (h:∀s∈Ky o,F s=F' s):pv F L Y o=pv F' L Y o:=by
 cases o<;>simp only [Ky,AZ] at h<;>simp only [pv]<;>first
  |rw [BY h]
  |rw [BY (fun s hs=>h s (.inl (.inl (.inl hs)))),UZ (fun s hs=>h s (.inl (.inl (.inr hs)))),UZ (fun s hs=>h s (.inl (.inr hs))),UZ (fun s hs=>h s (.inr hs))]
  |rw [BY (fun s hs=>h s (.inl (.inl hs))),UZ (fun s hs=>h s (.inl (.inr hs))),UZ (fun s hs=>h s (.inr hs))]
  |rw [BY (fun s hs=>h s (.inl hs)),BY (fun s hs=>h s (.inr hs))]
  |rw [BY (fun s hs=>h s (.inl (.inl hs))),BY (fun s hs=>h s (.inl (.inr hs))),BY (fun s hs=>h s (.inr hs))]
  |rw [RW _ _ h]
  |rw [Hb h]
  |rw [Hb (fun s hs=>h s (.inl hs)),Hb (fun s hs=>h s (.inr hs))]
  |rfl
def AVV {o:O} (h:yV o=true) (L':Lm) (σ':AH):pv F L Y o=pv F L' σ' o:=by
 cases o<;>first|rfl|(cases h;done)
def AY7 {o:O} (h:ARE o=true) (σ':AH):pv F L Y o=pv F L σ' o:=by
 cases o<;>first|rfl|(cases h;done)
def Yv (P:Program) (F:Fm) (L:Lm) (Y:AH) (v:AV):O->Prop
 | .mF f args=>(xvs F args).all AV.BS=true/\v.BS=true/\AR P f (xvs F args) Y (fun v' σ'=>v'=v/\σ'=Y)
 |o=>pv F L Y o=some v
def pP {F:Fm} {v:AV} {o:O} (h:∀s∈Ky o,F s=F' s) (hy:Yv P F L Y v o):Yv P F' L Y v o:=by
 cases o<;>first
  |(simp only [Yv] at hy ⊢;rw [<- ASB h];exact hy)
  |(simp only [Yv,Ky] at *;rw [<- Hb h];exact hy)
def ATV {v:AV} {o:O} (h:yV o=true) (L':Lm) (σ':AH) (hy:Yv P F L Y v o):Yv P F L' σ' v o:=by
 cases o<;>first|(cases h;done)|(simp only [Yv] at hy ⊢;rw [<- AVV h L' σ'];exact hy)
def AXZ {v:AV} {o:O} (h:ARE o=true) (σ':AH) (hy:Yv P F L Y v o):Yv P F L σ' v o:=by
 cases o<;>first|(cases h;done)|(simp only [Yv] at hy ⊢;rw [<- AY7 h σ'];exact hy)
def ALD {o:O} (h:isV o=true) (dst:Option Nat) (K:CW):XO P dst K F L Y o↔∃v,Yv P F L Y v o/\K (BL dst v F) L Y:=by
 cases o<;>try (cases h;done)
 case mF f args=>
  simp only [XO,pM,Yv];constructor
  . rintro ⟨h1,v,h2,h3⟩;exact ⟨v,⟨h1,h2⟩,h3⟩
  . rintro ⟨v,⟨h1,h2⟩,h3⟩;exact ⟨h1,v,h2,h3⟩
 case ex k xs=>
  have h:k.pure=true:=h;simp only [XO,XEx,h,if_true,Yv,pv];constructor
  . intro Z;obtain ⟨v,hv,hk⟩:=AK9 Z;exact ⟨v,hv,hk⟩
  . rintro ⟨v,hv,hk⟩;rw [hv];exact hk
 all_goals
  simp only [XO,Yv];constructor
  . intro Z;unfold XPv at Z;split at Z
    . rename_i v hv;exact ⟨v,hv,Z⟩
    . exact Z.elim
  . rintro ⟨v,hv,hk⟩;rw [hv];exact hk
def YQ (P:Program) (q:Q) (F:Fm) (L:Lm) (Y:AH) (v:AV):Prop:=XG (gd F q.grd) (Yv P F L Y v q.o) (v= .tup [])
def rI {F:Fm} {q:Q} (h:∀s∈q.looks,F s=F' s):gd F q.grd=gd F' q.grd:=by
 cases hg:q.grd with
 |none=>rfl
 |some gw=>
  obtain ⟨s,want⟩:=gw;simp only [gd];rw [h s (by simp [Q.looks,hg])]
def pN {F:Fm} {q:Q} {v:AV} (h:∀s∈q.looks,F s=F' s) (hy:YQ P q F L Y v):YQ P q F' L Y v:=by
 have h1:∀s∈Ky q.o,F s=F' s:=fun s hs=>h s (by simp [Q.looks,hs]);unfold YQ at hy ⊢;rw [<- rI h];cases hc:gd F q.grd with
 |none=>rw [hc] at hy;exact hy.elim
 |some b=>rw [hc] at hy;cases b<;>first|exact hy|exact pP h1 hy
def ATU {q:Q} {v:AV} (h:yV q.o=true) (L':Lm) (σ':AH) (hy:YQ P q F L Y v):YQ P q F L' σ' v:=by
 unfold YQ at hy ⊢;cases hc:gd F q.grd with
 |none=>rw [hc] at hy;exact hy.elim
 |some b=>rw [hc] at hy;cases b<;>first|exact hy|exact ATV h L' σ' hy
def AXY {q:Q} {v:AV} (h:ARE q.o=true) (σ':AH) (hy:YQ P q F L Y v):YQ P q F L σ' v:=by
 unfold YQ at hy ⊢;cases hc:gd F q.grd with
 |none=>rw [hc] at hy;exact hy.elim
 |some b=>rw [hc] at hy;cases b<;>first|exact hy|exact AXZ h σ' hy
def APH {q:Q} (h:isV q.o=true) (K:CW):XQ P q K F L Y↔∃v,YQ P q F L Y v/\K (BL q.dst v F) L Y:=by
 unfold XQ YQ;cases hc:gd F q.grd with
 |none=>exact ⟨fun hk=>hk.elim,fun ⟨_,hv,_⟩=>hv.elim⟩
 |some b=>
  cases b
  . exact ⟨fun hk=>⟨_,rfl,hk⟩,fun ⟨v,hv,hk⟩=>by have hv:v= .tup []:=hv;subst hv;exact hk⟩
  . exact ALD h q.dst K
def ATT {o:O} (htm:mL o=true) (hk:∀u L' σ',K (BL dst u F) L' σ'->K' (BL dst u F) L' σ') (Z:XO P dst K F L Y o):XO P dst K' F L Y o:=by
 have hF:dst=none->∀L' σ',K F L' σ'->K' F L' σ':=fun hd L' σ' h=>by have:=hk .undef L' σ';rw [hd] at this;exact this h
 by_cases hV:isV o=true
 . rw [ALD hV] at Z ⊢;obtain ⟨v,h1,h2⟩:=Z;exact ⟨v,h1,hk _ _ _ h2⟩
 . cases o<;>simp only [isV,not_true_eq_false] at hV
   case box x sh=>
    simp only [XO,Z0] at Z ⊢;refine ⟨Z.1,?_⟩;have Z:=Z.2;cases dst with
    |none=>exact Z.elim
    |some d=>
     cases sh with
     |true=>exact fun i hi=>hk (.gp i 0) _ _ (Z i hi)
     |false=>cases htm
   case al z sh=>
    simp only [XO,Z0] at Z ⊢;refine ⟨Z.1,?_⟩;have Z:=Z.2;cases dst with
    |none=>exact Z.elim
    |some d=>
     cases sh with
     |true=>exact fun i hi=>hk (.gp i 0) _ _ (Z i hi)
     |false=>cases htm
   case st x v n=>
    simp only [XO,XSt] at Z ⊢;obtain ⟨h1,h2,h3,h4⟩:=Z;refine ⟨h1,h2,h3,?_⟩;split at h4
    . exact hF h1 _ _ h4
    . exact h4.elim
   case msl e s b z l c=>
    obtain ⟨k,k',n,h1,h2,h3,h4,h5,h6⟩:=Z;exact ⟨k,k',n,h1,h2,h3,h4,h5,fun i hi=>hk _ _ _ (h6 i hi)⟩
   case uV e s b x y=>
    obtain ⟨n,cs,σ1,srows,h1,h2,h3,h4,h5,h6,h7⟩:=Z;exact ⟨n,cs,σ1,srows,h1,h2,h3,fun e=>hk _ _ _ (h4 e),h5,h6,fun e t ht=>hk _ _ _ (h7 e t ht)⟩
   case trn x y=>
    obtain ⟨k,s,e,cs,σ1,h1,h2⟩:=Z;exact ⟨k,s,e,cs,σ1,h1,fun t ht=>hk _ _ _ (h2 t ht)⟩
   case mW e s l z ps=>
    obtain ⟨cs,h1,h2⟩:=Z;exact ⟨cs,h1,h2.imp (fun h2 t ht=>hk _ _ _ (h2 t ht)) fun ⟨ds,h3,h5⟩=>⟨ds,h3,fun t ht=>hk _ _ _ (h5 t ht)⟩⟩
   case app e s b x y=>
    rcases Z with ⟨rows,σ1,srows,h1,h2,h3,h4,h5,h6⟩|⟨rows,srows,h1,h2,h3,h4,h5,h6,h7⟩
    . exact .inl ⟨rows,σ1,srows,h1,h2,h3,h4,h5,fun t ht=>hk _ _ _ (h6 t ht)⟩
    . exact .inr ⟨rows,srows,h1,h2,h3,h4,h5,h6,hk _ _ _ h7⟩
   case call f args=>
    obtain ⟨h1,R,h2,h3⟩:=Z;exact ⟨h1,R,h2,fun v σ' hv=>hk _ _ _ (h3 v σ' hv)⟩
   case aR x args=>
    obtain ⟨f,first,caps,h0,hb,h1,R,h2,h3⟩:=Z;exact ⟨f,first,caps,h0,hb,h1,R,h2,fun v σ' hv=>hk _ _ _ (h3 v σ' hv)⟩
   case fT s x y z=>cases htm
   case ex k xs=>
    simp only [XO,XEx,hV,A1,if_false] at Z ⊢;exact ⟨Z.1,Z.2.mono fun v σ' _ hv=>hk _ _ _ hv⟩
def AJS {q:Q} (htm:mL q.o=true) (hk:∀u L' σ',K (BL q.dst u F) L' σ'->K' (BL q.dst u F) L' σ') (Z:XQ P q K F L Y):XQ P q K' F L Y:=by
 unfold XQ at Z ⊢;cases hc:gd F q.grd with
 |none=>rw [hc] at Z;exact Z.elim
 |some b=>rw [hc] at Z;cases b<;>first|exact hk _ _ _ Z|exact ATT htm hk Z
def APG {o:O} (htm:ABC o=true) (hk:∀u σ',K (BL dst u F) L σ'->K' (BL dst u F) L σ') (Z:XO P dst K F L Y o):XO P dst K' F L Y o:=by
 by_cases hV:isV o=true
 . rw [ALD hV] at Z ⊢;obtain ⟨v,h1,h2⟩:=Z;exact ⟨v,h1,hk _ _ h2⟩
 . cases o<;>simp only [isV,not_true_eq_false] at hV
   case box x sh=>
    simp only [XO,Z0] at Z ⊢;refine ⟨Z.1,?_⟩;have Z:=Z.2;cases dst with
    |none=>exact Z.elim
    |some d=>
     cases sh with
     |true=>exact fun i hi=>hk (.gp i 0) _ (Z i hi)
     |false=>cases htm
   case al z sh=>
    simp only [XO,Z0] at Z ⊢;refine ⟨Z.1,?_⟩;have Z:=Z.2;cases dst with
    |none=>exact Z.elim
    |some d=>
     cases sh with
     |true=>exact fun i hi=>hk (.gp i 0) _ (Z i hi)
     |false=>cases htm
   case st x v n=>cases htm
   case msl e s b z l c=>
    obtain ⟨k,k',n,h1,h2,h3,h4,h5,h6⟩:=Z;exact ⟨k,k',n,h1,h2,h3,h4,h5,fun i hi=>hk _ _ (h6 i hi)⟩
   case uV e s b x y=>
    obtain ⟨n,cs,σ1,srows,h1,h2,h3,h4,h5,h6,h7⟩:=Z;exact ⟨n,cs,σ1,srows,h1,h2,h3,fun e=>hk _ _ (h4 e),h5,h6,fun e t ht=>hk _ _ (h7 e t ht)⟩
   case trn x y=>
    obtain ⟨k,s,e,cs,σ1,h1,h2⟩:=Z;exact ⟨k,s,e,cs,σ1,h1,fun t ht=>hk _ _ (h2 t ht)⟩
   case mW e s l z ps=>
    obtain ⟨cs,h1,h2⟩:=Z;exact ⟨cs,h1,h2.imp (fun h2 t ht=>hk _ _ (h2 t ht)) fun ⟨ds,h3,h5⟩=>⟨ds,h3,fun t ht=>hk _ _ (h5 t ht)⟩⟩
   case app e s b x y=>
    rcases Z with ⟨rows,σ1,srows,h1,h2,h3,h4,h5,h6⟩|⟨rows,srows,h1,h2,h3,h4,h5,h6,h7⟩
    . exact .inl ⟨rows,σ1,srows,h1,h2,h3,h4,h5,fun t ht=>hk _ _ (h6 t ht)⟩
    . exact .inr ⟨rows,srows,h1,h2,h3,h4,h5,h6,hk _ _ h7⟩
   case call f args=>
    obtain ⟨h1,R,h2,h3⟩:=Z;exact ⟨h1,R,h2,fun v σ' hv=>hk _ _ (h3 v σ' hv)⟩
   case aR x args=>
    obtain ⟨f,first,caps,h0,hb,h1,R,h2,h3⟩:=Z;exact ⟨f,first,caps,h0,hb,h1,R,h2,fun v σ' hv=>hk _ _ (h3 v σ' hv)⟩
   case fT s x y z=>cases htm
   case ex k xs=>
    simp only [XO,XEx,hV,A1,if_false] at Z ⊢;exact ⟨Z.1,Z.2.mono fun v σ' _ hv=>hk _ _ hv⟩
def API {q:Q} (htm:ABC q.o=true) (hk:∀u σ',K (BL q.dst u F) L σ'->K' (BL q.dst u F) L σ') (Z:XQ P q K F L Y):XQ P q K' F L Y:=by
 unfold XQ at Z ⊢;cases hc:gd F q.grd with
 |none=>rw [hc] at Z;exact Z.elim
 |some b=>rw [hc] at Z;cases b<;>first|exact hk _ _ Z|exact APG htm hk Z
def kY {d e:Option Nat} (h:∀k,d=some k->e≠some k) (u v:AV) (F:Fm):BL d u (BL e v F)=BL e v (BL d u F):=by
 cases d with
 |none=>rfl
 |some d=>
  cases e with
  |none=>rfl
  |some e=>
   have hne:d≠e:=fun he=>h d rfl (he ▸ rfl);funext s;simp only [BL,put];by_cases h1:s=d<;>by_cases h2:s=e<;>simp [h1,h2]
   . omega
   . intro h3;exact absurd h3 hne
   . intro h3;exact absurd h3.symm hne
def ABB {d:Option Nat} {s:Nat} (h:d≠some s) (v:AV) (F:Fm):BL d v F s=F s:=by
 cases d with
 |none=>rfl
 |some d=>simp only [BL,put];rw [if_neg];intro e;exact h (by rw [e])
def AXT {o:O} {d:Option Nat} {v:AV} (ht:mL o=true) (hl:∀s∈Ky o,d≠some s) (hd:∀k,dst=some k->d≠some k)
 (Z:XO P dst K (BL d v F) L Y o):XO P dst (fun F L Y=>K (BL d v F) L Y) F L Y o:=by
 have hc:∀u,BL dst u (BL d v F)=BL d v (BL dst u F):=fun u=>kY hd u v F;have hF:∀s∈Ky o,BL d v F s=F s:=fun s hs=>ABB (hl s hs) v F;by_cases hV:isV o=true
 . rw [ALD hV] at Z ⊢;obtain ⟨u,h1,h2⟩:=Z;refine ⟨u,pP hF h1,?_⟩;show K (BL d v (BL dst u F)) L Y;rw [<- hc u];exact h2
 . cases o<;>simp only [isV,not_true_eq_false] at hV<;>simp only [Ky,AZ] at hF
   case box x sh=>
    cases sh<;>simp only [mL] at ht
    . cases ht
    simp only [XO,Z0] at Z ⊢;rw [<- BY hF];refine ⟨Z.1,?_⟩;have Z:=Z.2;cases dst with
    |none=>exact Z.elim
    |some e=>exact fun i hi=>(by show K (BL d v (BL (some e) (.gp i 0) F)) _ _;rw [<- hc (.gp i 0)];exact Z i hi)
   case al z sh=>
    cases sh<;>simp only [mL] at ht
    . cases ht
    simp only [XO,Z0] at Z ⊢;refine ⟨Z.1,?_⟩;have Z:=Z.2;cases dst with
    |none=>exact Z.elim
    |some e=>exact fun i hi=>(by show K (BL d v (BL (some e) (.gp i 0) F)) _ _;rw [<- hc (.gp i 0)];exact Z i hi)
   case st x y n=>
    simp only [XO,XSt] at Z ⊢;rw [<- BY (fun s hs=>hF s (.inl hs)),<- BY (fun s hs=>hF s (.inr hs))];obtain ⟨h1,h2,h3,h4⟩:=Z;refine ⟨h1,h2,h3,?_⟩;cases he:stA L Y (xv (BL d v F) y).cells (xv (BL d v F) x) with
    |none=>rw [he] at h4;exact h4.elim
    |some r=>obtain ⟨L',σ'⟩:=r;rw [he] at h4;exact h4
   case uV e s b x y=>
    obtain ⟨n,cs,σ1,srows,h1,h2,h3,h4,h5,h6,h7⟩:=Z;refine ⟨n,cs,σ1,srows,by rw [<- BY (fun s hs=>hF s (.inl hs))];exact h1,by rw [<- BY (fun s hs=>hF s (.inr hs))];exact h2,h3,fun e=>?_,h5,h6,fun e t ht=>?_⟩
    . show K (BL d v (BL dst _ F)) _ _;rw [<- hc,<- BY (fun s hs=>hF s (.inl hs))];exact h4 e
    . show K (BL d v (BL dst _ F)) _ _;rw [<- hc];exact h7 e t ht
   case trn x y=>
    obtain ⟨k,s,e,cs,σ1,h1,h2⟩:=Z;refine ⟨k,s,e,cs,σ1,by rw [<- BY (fun s hs=>hF s (.inl hs)),<- BY (fun s hs=>hF s (.inr hs))];exact h1,fun t ht=>?_⟩;show K (BL d v (BL dst _ F)) _ _;rw [<- hc];exact h2 t ht
   case mW e s l z ps=>
    obtain ⟨cs,h1,h2⟩:=Z;refine ⟨cs,by rw [<- RW _ _ hF];exact h1,h2.imp (fun h2 t ht=>?_) fun ⟨ds,h3,h5⟩=>⟨ds,h3,fun t ht=>?_⟩⟩
    . show K (BL d v (BL dst _ F)) _ _;rw [<- hc];exact h2 t ht
    . show K (BL d v (BL dst _ F)) _ _;rw [<- hc];exact h5 t ht
   case msl e s b z l c=>
    obtain ⟨k,k',n,h1,h2,h3,h4,h5,h6⟩:=Z;refine ⟨k,k',n,by rw [<- BY (fun s hs=>hF s (.inl hs))];exact h1,by rw [<- BY (fun s hs=>hF s (.inr hs))];exact h2,h3,h4,h5,fun i hi=>?_⟩;show K (BL d v (BL dst _ F)) _ _;rw [<- hc];exact h6 i hi
   case app e s b x y=>
    rcases Z with ⟨rows,σ1,srows,h1,h2,h3,h4,h5,h6⟩|⟨rows,srows,h1,h2,h3,h4,h5,h6,h7⟩
    . refine .inl ⟨rows,σ1,srows,by rw [<- BY (fun s hs=>hF s (.inl hs))];exact h1,by rw [<- BY (fun s hs=>hF s (.inr hs))];exact h2,h3,h4,h5,fun t ht=>?_⟩;show K (BL d v (BL dst _ F)) _ _;rw [<- hc];exact h6 t ht
    . refine .inr ⟨rows,srows,by rw [<- BY (fun s hs=>hF s (.inl hs))];exact h1,by rw [<- BY (fun s hs=>hF s (.inr hs))];exact h2,h3,h4,h5,h6,?_⟩;show K (BL d v (BL dst _ F)) _ _;rw [<- hc];exact h7
   case call f args=>
    obtain ⟨h1,R,h2,h3⟩:=Z;rw [Hb hF] at h1 h2;refine ⟨h1,R,h2,fun u σ' hv=>?_⟩;show K (BL d v (BL dst _ F)) _ _;rw [<- hc];exact h3 u σ' hv
   case aR x args=>
    obtain ⟨f,first,caps,h0,hb,h1,R,h2,h3⟩:=Z;rw [Hb (fun s hs=>hF s (.inr hs))] at h1 h2;refine ⟨f,first,caps,by rw [<- BY (fun s hs=>hF s (.inl hs))];exact h0,hb,h1,R,h2,fun u σ' hv=>?_⟩;show K (BL d v (BL dst _ F)) _ _;rw [<- hc];exact h3 u σ' hv
   case fT s x y z=>cases ht
   case ex k xs=>
    simp only [XO,XEx,hV,A1,if_false] at Z ⊢;rw [Hb hF] at Z;refine ⟨Z.1,Z.2.mono fun u σ' _ hv=>?_⟩;show K (BL d v (BL dst _ F)) _ _;rw [<- hc];exact hv
def AXV {q:Q} {d:Option Nat} {v:AV} (ht:mL q.o=true) (hl:∀s∈q.looks,d≠some s) (hd:∀k,q.dst=some k->d≠some k)
 (Z:XQ P q K (BL d v F) L Y):XQ P q (fun F L Y=>K (BL d v F) L Y) F L Y:=by
 have h1:∀s∈Ky q.o,d≠some s:=fun s hs=>hl s (by simp [Q.looks,hs]);unfold XQ at Z ⊢;rw [rI (F:=BL d v F) (F':=F) (fun s hs=>ABB (hl s hs) v F)] at Z;cases hc:gd F q.grd with
 |none=>rw [hc] at Z;exact Z.elim
 |some b=>
  rw [hc] at Z;cases b
  . have Z:K (BL q.dst (.tup []) (BL d v F)) L Y:=Z;show K (BL d v (BL q.dst (.tup []) F)) L Y;rw [<- kY hd];exact Z
  . exact AXT ht h1 hd Z
end Go.Ab
