/- Part Ab1. Conditions: none. -/
import Derived.Orders
import Derived.Below
import Derived.Laws.AppendOwn
import Derived.Laws.AppendOwnNone
import Derived.Laws.Strings
import Derived.Laws.StructEq
import Derived.Laws.Externs
import Derived.Lib.AppendStr
import Derived.Lib.AppendZeros
import Derived.Lib.UnsafeStr
import Derived.Laws.IdiomStrings
import Derived.Lib.LazyBuf
import Derived.Laws.CopyRow
import Derived.MapKept
set_option linter.unusedSimpArgs false
set_option linter.unusedVariables false
set_option maxRecDepth 100000
set_option maxHeartbeats 40000000
set_option linter.defProp false
open List renaming map_cons→AB,all_cons→BK,length_append→A0,size_toArray→Tl,eq_nil_of_length_eq_zero→Ay,nil_append→A3,replicate→AH,mem_cons→Ah,mem_of_mem_drop→I7,mem_of_mem_take→DA,all_eq_true→Ao,range→Aj,getElem?_map→Az,getElem?_range→Ev,getElem?_eq_some_iff→AG,mem_of_getElem?→AE,take_zero→CD,getElem_mem→Fa,drop_drop→Fx,foldl_cons→BD,length_cons→AT,getElem?_cons_succ→Bz,getElem_of_mem→CJ,getElem?_eq_getElem→An,length_take→Bs,length_drop→OU,replicate_succ→Bg,flatten_cons→BO,flatten_append→Js,map_append→A4,all_append→ZB,ext_getElem?→Dw,getElem?_append_right→BY,getElem?_append_left→Di,length_map→AA,mem_map→BR,length_pos_iff→Ds,drop_zero→N9,take_of_length_le→AR,mem_append→A2,append_nil→Aw,length_nil→A8,take_append_drop→Am,take→Ew,getElem?_cons_zero→A7,contains_cons→RH,all_nil→Cl,map_congr_left→Gk,flatMap_cons→G9,mem_range→Cr,contains_iff_mem→B8,mem_zipIdx_iff_getElem?→ZC,mem_singleton→A9
open Bool renaming and_eq_true→AM,or_eq_true→EH,false_eq_true→As,not_eq_true'→Du,and_self→XF,true_and→Fe,false_or→MP,and_true→Cu
open Nat renaming le_refl→AW,le_trans→Ai,add_mul→Cj,zero_add→Av,mul_le_mul_right→CW,lt_or_ge→Ff,lt_of_lt_of_le→Be,zero_le→D7,zero_mul→To,add_zero→CC,mul_one→Ag,min_eq_left→I4,mul_le_mul→Tm,eq_zero_or_pos→RL
open Go renaming undef→DJ
open Array renaming getElem?_eq_some_iff→b9,length_toList→Z5,range→XI,getD_eq_getD_getElem?→HK,getElem?_modify→WD,replicate→FI
open Option.some renaming injEq→AP,inj→RE
open Ne renaming symm→A5
open Option renaming map_eq_some_iff→AO,bind_eq_some_iff→AF,bind_eq_bind→AX,map_some→Ap,bind_some→Jt,getD_some→BH
open ByteArray renaming mk→HL
open List.cons renaming injEq→FJ
open Prod.mk renaming injEq→B3
namespace Go.Ab
open Go.RowKit
variable {b cap h j n off:Nat} {dst:Option Nat} {e k mt ty:TypeId} {hiv lov:Option Value} {i:TypeInfo} {im:Nat->Nat->Option Value} {lc:Bool} {listed:Array Bool} {m:Sem Value} {news vs xs:List Value} {o:Oper} {ops:Array Oper} {ps:Array (Nat×Operand)} {pvl qvl u v z:Value} {rt:Option (Nat×TypeId)} {s:List UInt8} {y:Operand}
inductive DV where
 |int (k:IntKind) (n:Int)
 |bool (b:Bool)
 |str (s:List UInt8)
 |sl (rows:List (List DV))
 |ptr (row:List DV)
 |Dt
variable {l:List DV} {srows:List (List DV)}
abbrev MK:=Int ⊕ (Int×List UInt8)
abbrev MEs:=List (MK×Int)
variable {es:MEs}
inductive I where
 |d (x:DV)
 |Ac
 |own (t e size:Nat) (rows:List (List DV))
 |clip (rows:List (List DV))
 |agg (cs:List I)
 |lp (k off:Nat)
 |gp (i off:Nat)
 |ep (row:List DV) (off:Nat)
 |Dt
 |ms (i n s e:Nat)
 |mv (i off n s e:Nat)
 |bp (t e:Nat) (s:List UInt8)
 |Jd
 |om (t:Nat) (es:MEs)
 |fn (f:FuncId) (first Ae:List I)
 |tup (vs:List I)
 |undef
variable {cs:List I} {hi lo:Option I} {p q:I}
def I.Bo:I->Bool
 | .agg _| .lp _ _| .tup _| .undef=>false
 |_=>true
def I.cells:I->List I
 | .agg cs=>cs
 |v=>[v]
structure X where
 C:Nat->Option (List I)
 tok:Nat->Bool
 gt:Nat->Option (Array Value)
 bt:Nat->Option (Nat×TypeId)
variable {R:I->X->Prop} {σ1:X}
structure Gh where
 im:Nat->Nat->Option Value
 mu:Nat->Option Nat
 tau:Nat->Option (Value×TypeId×Nat)
 rm:Nat->Option (Nat×TypeId)
structure Gh.le (g g':Gh):Prop where
 im:∀b o v,g.im b o=some v->g'.im b o=some v
 mu:∀i b,g.mu i=some b->g'.mu i=some b
 tau:∀t x,g.tau t=some x->g'.tau t=some x
 rm:∀i n,g.rm i=some n->g'.rm i=some n
theorem Gh.le_refl (g:Gh):g.le g:=⟨fun _ _ _ h=>h,fun _ _ h=>h,fun _ _ h=>h,fun _ _ h=>h⟩
theorem Gh.le_trans {a b c:Gh} (h:a.le b) (k:b.le c):a.le c:=
 ⟨fun _ _ _ x=>k.im _ _ _ (h.im _ _ _ x),fun _ _ x=>k.mu _ _ (h.mu _ _ x),fun _ _ x=>k.tau _ _ (h.tau _ _ x),fun _ _ x=>k.rm _ _ (h.rm _ _ x)⟩
inductive RD (im:Nat->Nat->Option Value):DV->Value->Prop
 |int {k:IntKind} {n:Int} (h:k.has n):RD im (.int k n) (.int k n)
 |bool {b:Bool}:RD im (.bool b) (.bool b)
 |str {s:List UInt8} (h:s.length<=maxLen):RD im (.str s) (.string ⟨s.toArray⟩)
 |nil {a:Option Addr} {cap:Nat} (hm:cap<=maxLen) (h:a=none->cap=0):RD im (.sl []) (.slice a 0 cap)
 |sl {rows:List (List DV)} {b off cap size:Nat} {f:Nat->Nat->Value} (hc:rows.length<=cap) (hm:cap<=maxLen)
  (hs:∀r∈rows,r.length=size)
  (hi:∀i j,i < rows.length->j < size->im b (off+i * size+j)=some (f i j))
  (hr:∀(i:Nat) (r:List DV) (j:Nat) (x:DV),rows[i]?=some r->r[j]?=some x->RD im x (f i j)):
  RD im (.sl rows) (.slice (some ⟨b,off,none⟩) rows.length cap)
 |ptr {row:List DV} {b o:Nat} {f:Nat->Value} (hi:∀j,j < row.length->im b (o+j)=some (f j))
  (hr:∀(j:Nat) (x:DV),row[j]?=some x->RD im x (f j)):RD im (.ptr row) (.pointer (some ⟨b,o,none⟩))
 |Dt:RD im .Dt (.pointer none)
def RD.mono {im':Nat->Nat->Option Value} (h:∀b o v,im b o=some v->im' b o=some v) {x:DV} (m:RD im x v):RD im' x v:=by
 induction m with
 |int h=>exact .int h
 |bool=>exact .bool
 |str h=>exact .str h
 |nil d h=>exact .nil d h
 |sl f d l c k e=>exact .sl f d l (fun i j a b=>h _ _ _ (c i j a b)) e
 |ptr c k e=>exact .ptr (fun j g=>h _ _ _ (c j g)) e
 |Dt=>exact .Dt
def RD.one {x:DV} (a:RD im x v):v.oneCell'=true:=by cases a<;>rfl
def kV:MK->Value
 | .inl n=>.int .i64 n
 | .inr k=>.agg #[.int .i64 k.1,.string ⟨⟨k.2⟩⟩]
def V0 (p:MK×Int):Value×Value:=(kV p.1,match p.1 with| .inl _=>.int .i64 p.2| .inr _=>.bool true)
def vA (b:Nat) (es:MEs):Value:= .tuple #[.map (some b),.tuple (es.map fun p=>Value.tuple #[kV p.1,.int .i64 p.2]).toArray]
def AcV:Value->Option (MK×Int)
 | .tuple a=>match a.toList with
  |[.int _ x,.int _ y]=>some (.inl x,y)
  |[.agg c,.int _ y]=>match c.toList with
   |[.int _ x,.string s]=>some (.inr (x,s.data.toList),y)
   |_=>none
  |_=>none
 |_=>none
def AL8:List Value->MEs
 |[]=>[]
 |v::l=>((AcV v).getD (.inl 0,0))::AL8 l
def AL9:Value->Option (Nat×MEs)
 | .tuple a=>match a.toList with
  |[.map (some b),.tuple c]=>some (b,AL8 c.toList)
  |_=>none
 |_=>none
def pZ:∀es:MEs,AL8 (es.map fun p=>Value.tuple #[kV p.1,.int .i64 p.2])=es
 |[]=>rfl
 |(.inl n,x)::es=>by rw [AB,AL8,pZ es];rfl
 |(.inr (n,s),x)::es=>by rw [AB,AL8,pZ es];rfl
theorem dE (b:Nat) (es:MEs):AL9 (vA b es)=some (b,es):=by
 show some (b,AL8 ((es.map fun p=>Value.tuple #[kV p.1,.int .i64 p.2]).toArray.toList))=some (b,es);rw [List.toList_toArray,pZ]
def AQC {b':Nat} {es':MEs} (h:vA b es=vA b' es'):b=b'/\es=es':=by
 have:=congrArg AL9 h
 grind [dE]
inductive VR (g:Gh):I->Value->Prop
 |d {x:DV} {v:Value} (h:RD g.im x v):VR g (.d x) v
 |Ac:VR g .Ac (.slice none 0 0)
 |own {t e size:Nat} {rows:List (List DV)} {v:Value} (h:RD g.im (.sl rows) v) (ht:g.tau t=some (v,e,size)) (hs:∀r∈rows,r.length=size):VR g (.own t e size rows) v
 |clip {rows:List (List DV)} {a:Option Addr} {n:Nat} (h:RD g.im (.sl rows) (.slice a n n)):VR g (.clip rows) (.slice a n n)
 |agg {cs:List I} {vs:List Value} (hl:vs.length=cs.length) (hc:∀c∈cs,c.Bo=true)
  (h:∀(i:Nat) (c:I) (v:Value),cs[i]?=some c->vs[i]?=some v->VR g c v):VR g (.agg cs) (.agg vs.toArray)
 |gp {i off b:Nat} (h:g.mu i=some b):VR g (.gp i off) (.pointer (some ⟨b,off,none⟩))
 |ep {row:List DV} {off b o:Nat} {f:Nat->Value} (hi:∀j,j < row.length->g.im b (o+j)=some (f j))
  (hr:∀j x,row[j]?=some x->RD g.im x (f j)):VR g (.ep row off) (.pointer (some ⟨b,o+off,none⟩))
 |Dt:VR g .Dt (.pointer none)
 |ms {i n s e b cap:Nat} (h:g.mu i=some b) (hr:g.rm i=some (cap * s,e)) (hn:n<=cap) (hm:cap<=maxLen):VR g (.ms i n s e) (.slice (some ⟨b,0,none⟩) n cap)
 |mv {i off n s e b o cap:Nat} (h:g.mu i=some b) (hr:g.rm i=some (cap * s,e)) (hn:off+n<=cap) (hm:cap<=maxLen) (ho:off < cap->o=off * s):VR g (.mv i off n s e) (.slice (some ⟨b,o,none⟩) n (cap - off))
 |bp {t e cap b off:Nat} {s:List UInt8} (ht:g.tau t=some (.slice (some ⟨b,off,none⟩) s.length cap,e,1)) (him:∀(j:Nat) (x:UInt8),s[j]?=some x->g.im b (off+j)=some (.int .u8 x.toNat)):VR g (.bp t e s) (.pointer (some ⟨b,off,none⟩))
 |Jd:VR g .Jd .nilFunc
 |om {t b:Nat} {es:MEs} (h:g.tau t=some (vA b es,0,0)):VR g (.om t es) (.map (some b))
 |fn {f:FuncId} {first Ae:List I} {fs cs:List Value} (hl:fs.length=first.length) (hl':cs.length=Ae.length)
  (h:∀(i:Nat) (c:I) (v:Value),first[i]?=some c->fs[i]?=some v->VR g c v)
  (h':∀(i:Nat) (c:I) (v:Value),Ae[i]?=some c->cs[i]?=some v->VR g c v):VR g (.fn f first Ae) (.func (.func f) fs.toArray cs.toArray)
 |tup {cs:List I} {vs:List Value} (hl:vs.length=cs.length)
  (h:∀(i:Nat) (c:I) (v:Value),cs[i]?=some c->vs[i]?=some v->VR g c v):VR g (.tup cs) (.tuple vs.toArray)
 |undef {v:Value}:VR g .undef v
def VR.mono {g g':Gh} (a:g.le g') {x:I} {v:Value} (e:VR g x v):VR g' x v:=by
 induction e with
 |d h=>exact .d (h.mono a.im)
 |Ac=>exact .Ac
 |own h n t=>exact .own (h.mono a.im) (a.tau _ _ n) t
 |clip h=>exact .clip (h.mono a.im)
 |agg b p _ f=>exact .agg b p f
 |gp h=>exact .gp (a.mu _ _ h)
 |ep q c=>exact .ep (fun j r=>a.im _ _ _ (q j r)) (fun j x e=>(c j x e).mono a.im)
 |Dt=>exact .Dt
 |ms h c m l=>exact .ms (a.mu _ _ h) (a.rm _ _ c) m l
 |mv h c m l s=>exact .mv (a.mu _ _ h) (a.rm _ _ c) m l s
 |bp n i=>exact .bp (a.tau _ _ n) (fun j x e=>a.im _ _ _ (i j x e))
 |Jd=>exact .Jd
 |om h=>exact .om (a.tau _ _ h)
 |fn b k _ _ f o=>exact .fn b k f o
 |tup b _ f=>exact .tup b f
 |undef=>exact .undef
def VR.one {g:Gh} {x:I} {v:Value} (a:x.Bo=true) (b:VR g x v):v.oneCell'=true:=by
 cases b with
 |d h=>exact h.one
 |own h _ _=>exact h.one
 |agg=>cases a
 |tup=>cases a
 |undef=>cases a
 |_=>rfl
inductive VRs (g:Gh):List I->List Value->Prop
 |nil:VRs g [] []
 |cons {c:I} {v:Value} {cs:List I} {vs:List Value} (h:VR g c v) (hs:VRs g cs vs):VRs g (c::cs) (v::vs)
def VRs.mono {g g':Gh} (a:g.le g') {cs:List I} {vs:List Value} (h:VRs g cs vs):VRs g' cs vs:=by
 induction h with
 |nil=>exact .nil
 |cons h _ b=>exact .cons (h.mono a) b
def VRs.length {g:Gh} (h:VRs g cs vs):vs.length=cs.length:=by
 induction h with
 |nil=>rfl
 |cons _ _ a=>simp [a]
def VRs.at {g:Gh} (h:VRs g cs vs):∀(i:Nat) (c:I),cs[i]?=some c->∃v,vs[i]?=some v/\VR g c v:=by
 induction h with
 |nil=>grind
 |cons h _ a=>
  grind
theorem VRs.Qe {g:Gh}:∀(cs:List I) (vs:List Value),vs.length=cs.length->(∀(i:Nat) (c:I) (v:Value),cs[i]?=some c->vs[i]?=some v->VR g c v)->VRs g cs vs
 |[],[],_,_=>.nil
 |[],_::_,h,_=>by simp at h
 |_::_,[],h,_=>by simp at h
 |c::cs,v::vs,h,k=>.cons (k 0 c v rfl rfl) (VRs.Qe cs vs (by grind) fun i c v a b=>k (i+1) c v (by grind) (by grind))
def VRs.idx {g:Gh} (h:VRs g cs vs) (i:Nat) (c:I) (v:Value) (a:cs[i]?=some c) (e:vs[i]?=some v):VR g c v:=by
 obtain ⟨u,d,b⟩:=h.at i c a
 grind
def VRs.append {g:Gh} {ds:List I} {us:List Value} (h:VRs g cs vs) (k:VRs g ds us):VRs g (cs++ds) (vs++us):=by
 induction h with
 |nil=>exact k
 |cons h _ a=>exact .cons h a
def VRs.take {g:Gh} (h:VRs g cs vs) (n:Nat):VRs g (cs.take n) (vs.take n):=by
 induction h generalizing n with
 |nil=>simpa using .nil
 |cons h _ a=>cases n with
  |zero=>simpa using .nil
  |succ n=>simpa using .cons h (a n)
def VRs.drop {g:Gh} (h:VRs g cs vs) (n:Nat):VRs g (cs.drop n) (vs.drop n):=by
 induction h generalizing n with
 |nil=>simpa using .nil
 |cons h a b=>cases n with
  |zero=>simpa using .cons h a
  |succ n=>grind
def BA (cs:List I):Bool:=cs.all I.Bo
def VRs.AbV {g:Gh} (h:VRs g cs vs) (a:BA cs=true):∀v∈vs,v.oneCell'=true:=by
 induction h with
 |nil=>grind
 |cons h _ c=>
  simp only [BA,BK,AM] at a;intro v b;cases b with
  |head=>exact h.one a.1
  |tail _ b=>exact c a.2 v b
theorem VR.cells {g:Gh} {x:I} {v:Value} (h:VR g x v) (l:BA x.cells=true):VRs g x.cells v.cells.toList:=by
 cases h with
 |agg p _ h=>grind [VRs.Qe,Value.cells,I.cells]
 |tup=>simp [I.cells,BA,I.Bo] at l
 |undef=>simp [I.cells,BA,I.Bo] at l
 |d h=>
  have:=h.one;cases v<;>first|(cases h;done)|exact .cons (.d h) .nil
 |own h n m=>
  cases h with
  |nil a b=>exact .cons (.own (.nil a b) n m) .nil
  |sl a b c e f=>exact .cons (.own (.sl a b c e f) n m) .nil
 |Ac=>exact .cons .Ac .nil
 |clip h=>exact .cons (.clip h) .nil
 |gp h=>exact .cons (.gp h) .nil
 |ep h k=>exact .cons (.ep h k) .nil
 |Dt=>exact .cons .Dt .nil
 |ms h j k i=>exact .cons (.ms h j k i) .nil
 |mv h j k i o=>exact .cons (.mv h j k i o) .nil
 |bp h k=>exact .cons (.bp h k) .nil
 |Jd=>exact .cons .Jd .nil
 |om h=>exact .cons (.om h) .nil
 |fn a b c e=>exact .cons (.fn a b c e) .nil
def Vl (es:MEs) (ents:Array MapEntry):Prop:=ents.toList.map (fun m=>(m.key,m.val))=es.map V0
def YU (v:Value):Option Nat:=match AL9 v with
 |some x=>some x.1
 |none=>v.ownBlock
def WW (w:World) (base:Nat) (e:TypeId) (size:Nat) (v:Value) (n:Nat) (xs:List Value):Prop:=match AL9 v with
 |some x=>base<=x.1/\∃ents clock,w.heap[x.1]?=some (.map ents clock)/\Vl x.2 ents
 |none=>w.ownsRow base e size v n xs
def ADK {w:World} {base:Nat} {size:Nat} (h:w.ownsRow base e size v n xs):AL9 v=none:=by
 rcases h.2 with ⟨rfl,_⟩|⟨g,cap,cur,rfl,_⟩<;>rfl
theorem sM {w:World} {base:Nat} {size:Nat} (h:w.ownsRow base e size v n xs):YU v=v.ownBlock:=by
 unfold YU;rw [ADK h]
def ANV {w:World} {base:Nat} {size:Nat} (h:w.ownsRow base e size v n xs):WW w base e size v n xs:=by
 unfold WW;rw [ADK h];exact h
def WW.lt {w:World} {base:Nat} {e:TypeId} {size:Nat} {v:Value} {n:Nat} {xs:List Value} (h:WW w base e size v n xs):∀k,YU v=some k->base<=k/\k < w.heap.size:=by
 intro k a;unfold WW at h;unfold YU at a;split at h
 . grind
 . rename_i b;rw [b] at a;exact h.lt k a
structure Aa1 (base:Nat) (g:Gh) (Pr:Nat->Prop) (A:X) (t:Nat) (w:World):Prop where
 row:∃v e size n xs,g.tau t=some (v,e,size)/\WW w base e size v n xs/\
  ∀b,YU v=some b->(∀o,n * size<=o->g.im b o=none)/\¬Pr b/\(∀i,A.C i≠none->g.mu i≠some b)/\
   (∀t' v' e' s',t'≠t->A.tok t'=true->g.tau t'=some (v',e',s')->YU v'≠some b)
structure Aa0 (base:Nat) (g:Gh) (Pr:Nat->Prop) (rt:Option (Nat×TypeId)) (cs:List I) (b:Nat) (w:World):Prop where
 ok:BA cs=true
 row:∃vs ty,w.heap[b]?=some (.cells vs ty (0,0))/\cs.length<=vs.size/\(∀t,rt=some t->vs.size=t.1/\ty=t.2)/\VRs g cs (vs.toList.take cs.length)
 low:base<=b
 im:∀o,g.im b o=none
 pr:¬Pr b
def X.St (A:X) (g:Gh) (base:Nat) (w0:World):Prop:=(∀b vs,A.gt b=some vs->b < base/\∃ty fr,w0.heap[b]?=some (.cells vs ty fr))/\(∀i x,A.bt i=some x->g.rm i=some x)
def X.St.mono {A H:X} {g g':Gh} {base:Nat} {w0:World} (h:A.St g base w0) (a:g.le g') (c:H.gt=A.gt) (d:H.bt=A.bt):H.St g' base w0:=
 ⟨fun b vs e=>h.1 b vs (by grind),fun i x f=>a.rm _ _ (h.2 i x (by grind))⟩
structure Rel (base:Nat) (g:Gh) (Pr:Nat->Prop) (A:X) (w0 w:World):Prop where
 im:∀b o v,g.im b o=some v->w.cell? ⟨b,o,none⟩=some v
 shr:∀i cs,A.C i=some cs->∃b,g.mu i=some b/\Aa0 base g Pr (g.rm i) cs b w
 inj:∀i j b,A.C i≠none->A.C j≠none->g.mu i=some b->g.mu j=some b->i=j
 tok:∀t,A.tok t=true->Aa1 base g Pr A t w
 pr:∀b,Pr b->b < w.heap.size/\∀o,g.im b o=none
 bel:Below base w0 w
 bs:base<=w.heap.size
 fin:∃n,∀i,n<=i->g.mu i=none/\g.tau i=none/\g.rm i=none
 st:A.St g base w0
def KP (Pr:Nat->Prop) (w w':World):Prop:=w.heap.size<=w'.heap.size/\∀b,Pr b->w'.heap[b]?=w.heap[b]?
theorem KP.refl (a:Nat->Prop) (w:World):KP a w w:=⟨AW _,fun _ _=>rfl⟩
theorem KP.trans {Pr:Nat->Prop} {a b c:World} (h:KP Pr a b) (k:KP Pr b c):KP Pr a c:=
 ⟨Ai h.1 k.1,fun x d=>(k.2 x d).trans (h.2 x d)⟩
def SV (g:Gh) (lam:Nat->Option Nat):I->Value->Prop
 | .lp k off,v=>∃b,lam k=some b/\v= .pointer (some ⟨b,off,none⟩)
 |x,v=>VR g x v
theorem SV.FT {g:Gh} {lam:Nat->Option Nat} {x:I} (h:VR g x v):SV g lam x v:=by
 cases x<;>first|exact h|(cases h;done)
def I.BS:I->Bool
 | .lp _ _=>false
 |_=>true
def SV.vr {g:Gh} {lam:Nat->Option Nat} {x:I} (a:x.BS=true) (h:SV g lam x v):VR g x v:=by
 cases x<;>first|exact h|(cases a;done)
abbrev Fm:=Nat->I
variable {F':Fm}
abbrev Lm:=Nat->Option (List I)
structure Bu (base:Nat) (g:Gh) (lam:Nat->Option Nat) (Pr:Nat->Prop) (N:Nat) (F:Fm) (L:Lm) (A:X) (a:Act) (w0 w:World):Prop where
 tm:∀s,SV g lam (F s) (a.tmps.getD s DJ)
 sz:a.tmps.size=N
 df:a.defers=[]
 loc:∀k cs,L k=some cs->BA cs=true/\∃b vs ty,lam k=some b/\base<=b/\w.heap[b]?=some (.cells vs ty (0,0))/\VRs g cs vs.toList
 inj:∀k k' b,lam k=some b->lam k'=some b->k=k'
 npr:∀k b,lam k=some b->¬Pr b
 rel:Rel base g (fun b=>Pr b\/∃k,lam k=some b) A w0 w
def AS (P:Program) (f:FuncId) (args:List I) (A:X) (Q:I->X->Prop):Prop:=
 ∀(base:Nat) (g:Gh) (Pr:Nat->Prop) (w0 w:World) (vs:List Value),Rel base g Pr A w0 w->VRs g args vs->
  Calls P f vs.toArray w fun e w'=>∃v av g' H,e= .returned v/\VR g' av v/\Rel base g' Pr H w0 w'/\g.le g'/\KP Pr w w'/\Q av H
def AS.mono {P:Program} {f:FuncId} {args:List I} {A:X} {Q Q':I->X->Prop} (h:AS P f args A Q) (k:∀v H,Q v H->Q' v H):AS P f args A Q':=
 fun base g i n w vs l m=>(h base g i n w vs l m).mono fun _ _ ⟨v,j,g',H,a,b,c,d,e,q⟩=>⟨v,j,g',H,a,b,c,d,e,k _ _ q⟩
section
variable {base N:Nat} {g:Gh} {Pr:Nat->Prop} {A:X} {w0 w w':World} {lam:Nat->Option Nat} {F:Fm} {L:Lm} {a:Act}
def Rel.WT (h:Rel base g Pr A w0 w) {o:Nat} (a:g.im b o=some v):b < w.heap.size:=
 World.block_lt_of_cell? w ⟨b,o,none⟩ (h.im b o v a)
def Rel.bS (h:Rel base g Pr A w0 w) {i:Nat} (d:A.C i=some cs) (c:g.mu i=some b):b < w.heap.size:=by
 obtain ⟨f,a,e⟩:=h.shr i cs d;rw [a] at c;cases c;obtain ⟨vs,ty,j,_,_,_⟩:=e.row
 grind
theorem ABI {e size:Nat} (h:w.ownsRow base e size v n xs) (f:∀b,v.ownBlock=some b->w'.heap[b]?=w.heap[b]?):w'.ownsRow base e size v n xs:=by
 refine ⟨h.1,?_⟩;rcases h.2 with g|⟨d,cap,cur,rfl,a,c,rest⟩
 . grind
 . exact .inr ⟨d,cap,cur,rfl,a,by rw [f d rfl];exact c,rest⟩
def Qf {e size:Nat} (h:WW w base e size v n xs) (a:∀b,YU v=some b->w'.heap[b]?=w.heap[b]?):WW w' base e size v n xs:=by
 unfold WW at h ⊢;unfold YU at a;split at h
 . grind
 grind [ABI]
theorem Rel.grow (h:Rel base g Pr A w0 w) (u:w.heap.size<=w'.heap.size) (p:∀b,b < w.heap.size->¬Pr b->w'.heap[b]?=w.heap[b]?)
 (m:Below base w w') {Pr':Nat->Prop} (k:∀b,Pr' b->b < w'.heap.size/\(Pr b\/w.heap.size<=b)):Rel base g Pr' A w0 w':=by
 have q:∀b o v,g.im b o=some v->¬Pr b:=fun b o v j a=>by rw [(h.pr b a).2 o] at j;cases j
 refine ⟨fun b o v j=>?_,fun i cs j=>?_,h.inj,fun t x=>?_,fun b a=>?_,h.bel.trans m,Ai h.bs u,h.fin,h.st⟩
 . rw [World.cell?_of_block (w:=w) (p b (h.WT j) (q b o v j))];exact h.im b o v j
 . obtain ⟨b,s,l⟩:=h.shr i cs j;obtain ⟨vs,ty,y,F,x,G⟩:=l.row;have r:b < w.heap.size:=(b9.1 y).1;refine ⟨b,s,l.ok,⟨vs,ty,by rw [p b r l.pr];exact y,F,x,G⟩,l.low,l.im,fun a=>?_⟩;rcases (k b a).2 with a|a
   . exact l.pr a
   . omega
 . obtain ⟨v,e,size,n,K,s,c,d⟩:=(h.tok t x).row;refine ⟨v,e,size,n,K,s,Qf c fun b f=>p b (c.lt b f).2 (d b f).2.1,fun b f=>?_⟩;obtain ⟨z,B,D,E⟩:=d b f;refine ⟨z,fun a=>?_,D,E⟩;rcases (k b a).2 with a|a
   . exact B a
   . have:=(c.lt b f).2;omega
 . refine ⟨(k b a).1,fun o=>?_⟩;rcases (k b a).2 with a|a
   . exact (h.pr b a).2 o
   . cases j:g.im b o with
     |none=>rfl
     |some v=>have:=h.WT j;omega
def Gh.settle (g:Gh) (b n:Nat) (vs:Array Value):Gh:=
 { g with im:=fun b' o=>if b'=b then (if o < n then vs[o]? else none) else g.im b' o}
def Rel.Yx (h:Rel base g Pr A w0 w) (b n:Nat) (vs:Array Value) (d:w.heap.size<=b):g.le (g.settle b n vs):=by
 refine ⟨fun c o v a=>?_,fun _ _ h=>h,fun _ _ h=>h,fun _ _ h=>h⟩;have:c≠b:=fun e=>by have:=h.WT a;omega
 simp [Gh.settle,this,a]
theorem Rel.settle (h:Rel base g Pr A w0 w) {b n:Nat} {vs:Array Value} (G:w.heap.size<=b) (d:Rel base g Pr A w0 w') (U:∀o,w'.cell? ⟨b,o,none⟩=vs[o]?):Rel base (g.settle b n vs) Pr A w0 w':=by
 have m:=h.Yx b n vs G;refine ⟨fun a o v l=>?_,fun i cs l=>?_,h.inj,fun t u=>?_,fun a x=>?_,d.bel,d.bs,h.fin,h.st.mono m rfl rfl⟩
 . by_cases e:a=b
   . subst e;simp only [Gh.settle,if_true] at l
     grind
   . simp only [Gh.settle,if_neg e] at l;exact d.im a o v l
 . obtain ⟨a,p,f⟩:=d.shr i cs l;have L:a < w.heap.size:=h.bS l p;have c:a≠b:=by omega
   obtain ⟨z,ty,P,K,u,N⟩:=f.row;exact ⟨a,p,f.ok,⟨z,ty,P,K,u,N.mono m⟩,f.low,fun o=>by simp [Gh.settle,c,f.im o],f.pr⟩
 . obtain ⟨v,e,size,Q,R,p,r,k⟩:=(d.tok t u).row;refine ⟨v,e,size,Q,R,p,r,fun a s=>?_⟩;obtain ⟨B,D,E,F⟩:=k a s;obtain ⟨Z,T,y,Y,S,q,j,_⟩:=(h.tok t u).row;rw [p] at q;cases q;have c:a≠b:=by have:=(j.lt a s).2;omega
   exact ⟨fun o f=>by simp [Gh.settle,c,B o f],D,E,F⟩
 . have c:a≠b:=fun e=>by have:=(h.pr a x).1;omega
   exact ⟨(d.pr a x).1,fun o=>by simp [Gh.settle,c,(d.pr a x).2 o]⟩
def X.AI (A:X) (i:Nat) (cs:List I):X:= { A with C:=fun j=>if j=i then some cs else A.C j}
def X.CM (A:X) (i:Nat):X:= { A with C:=fun j=>if j=i then none else A.C j}
def X.BV (A:X) (t:Nat):X:= { A with tok:=fun j=>if j=t then true else A.tok j}
def X.Bh (A:X) (t:Nat):X:= { A with tok:=fun j=>if j=t then false else A.tok j}
def X.BM (A:X) (i:Nat) (x:Nat×TypeId):X:= { A with bt:=fun j=>if j=i then some x else A.bt j}
structure X.le (H A:X):Prop where
 C:∀i cs,H.C i=some cs->A.C i=some cs
 tok:∀t,H.tok t=true->A.tok t=true
 gt:H.gt=A.gt
 bt:∀i x,H.bt i=some x->A.bt i=some x
theorem X.le_refl (A:X):A.le A:=⟨fun _ _ h=>h,fun _ h=>h,rfl,fun _ _ h=>h⟩
def Rel.less (h:Rel base g Pr A w0 w) {H:X} (d:H.le A):Rel base g Pr H w0 w:=by
 have k:∀i,H.C i≠none->A.C i≠none:=fun i a e=>by
  cases p:H.C i with
  |none=>exact a p
  |some cs=>rw [d.C i cs p] at e;cases e
 refine ⟨h.im,fun i cs a=>h.shr i cs (d.C i cs a),fun i j b a z=>h.inj i j b (k i a) (k j z),fun t D=>?_,h.pr,h.bel,h.bs,h.fin,⟨fun b vs E=>h.st.1 b vs (by rw [<- d.gt];exact E),fun i x F=>h.st.2 i x (d.bt i x F)⟩⟩;obtain ⟨v,e,size,n,L,B,f,c⟩:=(h.tok t (d.tok t D)).row;refine ⟨v,e,size,n,L,B,f,fun b o=>?_⟩;obtain ⟨r,s,u,y⟩:=c b o;exact ⟨r,s,fun i a=>u i (k i a),fun t' K q G l m=>y t' K q G l (d.tok t' m)⟩
theorem Rel.BM (h:Rel base g Pr A w0 w) {i:Nat} {x:Nat×TypeId} (c:g.rm i=some x):Rel base g Pr (A.BM i x) w0 w:=
 ⟨h.im,h.shr,h.inj,fun t b=>⟨(h.tok t b).row⟩,h.pr,h.bel,h.bs,h.fin,h.st.1,fun j y a=>by
   by_cases e:j=i
   . subst e;simp only [X.BM,if_true,AP] at a;grind
   . simp only [X.BM,if_neg e] at a;exact h.st.2 j y a⟩
def Rel.fresh (h:Rel base g Pr A w0 w):∃i,(g.mu i=none/\g.rm i=none)/\g.tau i=none/\A.C i=none/\A.tok i=false:=by
 obtain ⟨n,c⟩:=h.fin;refine ⟨n,⟨(c n (AW _)).1,(c n (AW _)).2.2⟩,(c n (AW _)).2.1,?_,?_⟩
 . cases a:A.C n with
   |none=>rfl
   |some cs=>obtain ⟨b,d,_⟩:=h.shr n cs a;grind
 . cases a:A.tok n with
   |false=>rfl
   |true=>obtain ⟨v,e,s,m,j,f,_⟩:=(h.tok n a).row;grind
def Gh.share (g:Gh) (i b:Nat) (rt:Option (Nat×TypeId)):Gh:= { g with mu:=fun j=>if j=i then some b else g.mu j,rm:=fun j=>if j=i then rt else g.rm j}
def Gh.OM {i:Nat} (a:g.mu i=none/\g.rm i=none):g.le (g.share i b rt):=
 ⟨fun _ _ _ h=>h,fun j c h=>by grind [Gh.share],fun _ _ h=>h,
  fun j c h=>by grind [Gh.share]⟩
def Rel.ABT (h:Rel base g Pr A w0 w) {i:Nat} (hi:g.mu i=none/\g.rm i=none) (Q:base<=b) (h5:∀j,A.C j≠none->g.mu j≠some b) (x:∀o,g.im b o=none)
 (K:∀t v e s,A.tok t=true->g.tau t=some (v,e,s)->YU v≠some b) {vs:Array Value} 
 (hv:w.heap[b]?=some (.cells vs ty (0,0))) (hl:cs.length<=vs.size) (F:∀t,rt=some t->vs.size=t.1/\ty=t.2) (hr:VRs g cs (vs.toList.take cs.length)) (B:BA cs=true) (D:¬Pr b):
 Rel base (g.share i b rt) Pr (A.AI i cs) w0 w:=by
 have d:=Gh.OM (g:=g) (i:=i) (b:=b) (rt:=rt) hi
 have h0:∀j,A.C j≠none->j≠i:=fun j a e=>by
  subst e;cases R:A.C j with
  |none=>exact a R
  |some cs=>obtain ⟨b,Q,_⟩:=h.shr j cs R;grind
 refine ⟨h.im,fun j cs' a=>?_,fun j k p a y f l=>?_,fun t S=>?_,h.pr,h.bel,h.bs,?_,h.st.mono d rfl rfl⟩
 . by_cases e:j=i
   . subst e;simp only [X.AI,if_true] at a;cases a;exact ⟨b,by simp [Gh.share],B,⟨vs,ty,hv,hl,by simpa [Gh.share] using F,hr.mono d⟩,Q,x,D⟩
   . simp only [X.AI,if_neg e] at a;obtain ⟨p,f,q⟩:=h.shr j cs' a;obtain ⟨P,N,L,z,G,E⟩:=q.row;exact ⟨p,d.mu _ _ f,q.ok,⟨P,N,L,z,by simpa [Gh.share,e] using G,E.mono d⟩,q.low,q.im,q.pr⟩
 . by_cases e:j=i<;>by_cases c:k=i
   . omega
   . simp only [X.AI,if_neg c] at y;simp only [Gh.share,if_neg c,if_pos e] at f l
     grind
   . simp only [X.AI,if_neg e] at a;simp only [Gh.share,if_neg e,if_pos c] at f l
     grind
   . simp only [X.AI,if_neg e,if_neg c] at a y;simp only [Gh.share,if_neg e,if_neg c] at f l;exact h.inj j k p a y f l
 . obtain ⟨v,e,size,n,xs,f,r,m⟩:=(h.tok t S).row;refine ⟨v,e,size,n,xs,f,r,fun p u=>?_⟩;obtain ⟨U,Y,h3,Z⟩:=m p u;refine ⟨U,Y,fun j a=>?_,Z⟩;by_cases c:j=i
   . subst c;have:b≠p:=fun T=>K t v e size S f (T ▸ u);simp [Gh.share];exact this
   . simp only [X.AI,if_neg c] at a;simp only [Gh.share,if_neg c]
     grind
 . obtain ⟨n,hn⟩:=h.fin;refine ⟨max n (i+1),fun j a=>⟨?_,(hn j (by omega)).2.1,?_⟩⟩
   . grind [Gh.share]
   grind [Gh.share]
theorem Rel.share (h:Rel base g Pr A w0 w) {i:Nat} (x:g.mu i=none/\g.rm i=none) (G:w.heap.size<=b) (u:Rel base g Pr A w0 w') {vs:Array Value} 
 (D:w'.heap[b]?=some (.cells vs ty (0,0))) (m:∀t,rt=some t->vs.size=t.1/\ty=t.2) (z:VRs g cs vs.toList) (k:BA cs=true) (l:¬Pr b):Rel base (g.share i b rt) Pr (A.AI i cs) w0 w':=by
 have r:=z.length;refine u.ABT x (by have:=h.bs;omega) (fun j y f=>?_) (fun o=>?_) (fun t v e s B f n=>?_) D (by grind) m (by grind) k l
 . cases q:A.C j with
   |none=>exact y q
   |some cs=>have:=h.bS q f;omega
 . cases d:g.im b o with
   |none=>rfl
   |some v=>have:=h.WT d;omega
 . obtain ⟨L,F,p,K,E,c,a,_⟩:=(h.tok t B).row;rw [f] at c;cases c;have:=(a.lt b n).2;omega
def Rel.write (h:Rel base g Pr A w0 w) {i:Nat} {cs':List I} (hi:A.C i=some cs) (B:g.mu i=some b) (N:w.heap.size<=w'.heap.size)
 (S:∀k,k < w.heap.size->k≠b->w'.heap[k]?=w.heap[k]?) (s:Below base w w') {vs:Array Value} 
 (hv:w'.heap[b]?=some (.cells vs ty (0,0))) (hl:cs'.length<=vs.size) (L:∀t,g.rm i=some t->vs.size=t.1/\ty=t.2) (hr:VRs g cs' (vs.toList.take cs'.length)) (G:BA cs'=true):Rel base g Pr (A.AI i cs') w0 w':=by
 obtain ⟨b0,x,d⟩:=h.shr i cs hi;rw [B] at x;cases x;have h0:∀k,Pr k->k≠b:=fun k q e=>d.pr (e ▸ q)
 have F:∀j,(A.AI i cs').C j≠none->A.C j≠none:=fun j c e=>by
  by_cases r:j=i
  . grind
  . simp only [X.AI,if_neg r] at c;exact c e
 refine ⟨fun a o v l=>?_,fun j cs2 c=>?_,fun j k a c q=>h.inj j k a (F j c) (F k q),fun t ht=>?_,fun k q=>?_,h.bel.trans s,Ai h.bs N,h.fin,h.st⟩
 . have y:a≠b:=fun e=>by subst e;rw [d.im o] at l;cases l
   rw [World.cell?_of_block (w:=w) (S a (h.WT l) y)];exact h.im a o v l
 . by_cases e:j=i
   . subst e;simp only [X.AI,if_true] at c;cases c;exact ⟨b,B,G,⟨vs,ty,hv,hl,L,hr⟩,d.low,d.im,d.pr⟩
   . simp only [X.AI,if_neg e] at c;obtain ⟨a,u,z⟩:=h.shr j cs2 c;obtain ⟨R,Q,h5,D,P,K⟩:=z.row;have y:a≠b:=fun r=>e (h.inj j i b (by grind) (by grind) (r ▸ u) B);exact ⟨a,u,z.ok,⟨R,Q,by grind,D,P,K⟩,z.low,z.im,z.pr⟩
 . obtain ⟨v,e,size,n,xs,E,p,f⟩:=(h.tok t ht).row;refine ⟨v,e,size,n,xs,E,Qf p fun a m=>?_,fun a m=>?_⟩
   . exact S a (p.lt a m).2 fun r=>(f a m).2.2.1 i (by grind) (r ▸ B)
   . obtain ⟨T,U,Y,Z⟩:=f a m;exact ⟨T,U,fun j c=>Y j (F j c),Z⟩
 . exact ⟨by have:=(h.pr k q).1;omega,(h.pr k q).2⟩
end
section
section
variable {P:Program} (w:World)
def Eg (base:Nat) (t ty e:TypeId) (i:TypeInfo) (z:Value) (size bytes:Nat) (L:P.underlying t=some (.slice e)) (G:P.info? e=some i) (hz:i.zero=some z)
 (x:i.size=size) (R:i.bytes=bytes) (Z:z.cells.size=size)
 (v:Value) (n:Nat) (o:List Value) (b:w.ownsRow base e size v n o)
 (a:Addr) (m c:Nat) (news:List Value) (y:news.length=m * size) (f:∀j u,news[j]?=some u->w.cell? (a.add j)=some u) (h1:∀u∈news,u.oneCell'=true)
 (B:n+m<=maxLen) (l:(n+m) * bytes<=140737488355328) (q:base<=w.heap.size):
 ∃N w',(Builtin.append_ #[t,t] ty #[v,.slice (some a) m c]).run P w= .ok N w'/\w'.ownsRow base e size N (n+m) (o++news)/\w.grownBy w' N.ownBlock/\
  (∀k,N.ownBlock=some k->v.ownBlock=some k\/w.heap.size<=k):=by
 subst x;subst R;have K:n+m<=9223372036854775807:=by simp only [maxLen] at B;omega
 have p:(o++news).length=(n+m) * i.size:=by rw [A0,b.1,y,Cj]
 have grown:∀(d:Nat),d < n+m->∀(row:Option Nat),
  (w.drew.alloc (.cells (o.toArray++news.toArray++Builtin.zeroCells z.cells (grownCap w (n+m) d e - (n+m))) e)).ownsRow base e i.size
    (.slice (some ⟨w.heap.size,0,none⟩) (n+m) (grownCap w (n+m) d e)) (n+m) (o++news)/\
  w.grownBy (w.drew.alloc (.cells (o.toArray++news.toArray++Builtin.zeroCells z.cells (grownCap w (n+m) d e - (n+m))) e)) row:=by
  intro d ho row;have T:=grownCap_ge w (n+m) d e;have r:grownCap w (n+m) d e<=maxLen:=grownCap_le_maxLen w (n+m) d e B;refine ⟨⟨p,.inr ⟨w.heap.size,_,_,rfl,q,heap_alloc_new w.drew _,T,r,?_,?_⟩⟩,⟨rfl,rfl,rfl,by simp,fun k F _=>heap_alloc_old w.drew _ k F⟩⟩
  . simp only [Array.size_append,Tl,size_zeroCells,Z,b.1,y,<- Cj]
    grind
  . grind
 rcases b.2 with ⟨rfl,rfl⟩|⟨g,cap,cur,rfl,Q,hg,h0,r,S,Y⟩
 . have hx:o=[]:=Ay (by grind);subst hx;by_cases hm:m=0
   . subst hm;have hn:news=[]:=Ay (by grind);subst hn;refine ⟨.slice none 0 0,w,?_,World.ownsRow_nil w base e i.size,⟨rfl,rfl,rfl,AW _,fun _ _ _=>rfl⟩,by grind⟩;simp [Builtin.append_,run_underlying L,sizeOf,typeInfo,G,Builtin.lenOf,Builtin.firstCells,loadCells,loadCellsFrom]
   . have U:=run_append_nil (P:=P) w t ty e i z L G hz a m c news y f (by omega) (by omega) (by grind);have E:=grown 0 (by omega) (some w.heap.size);simp only [Av,A3,Array.empty_append] at E ⊢
     grind [Value.ownBlock]
 . by_cases h:n+m<=cap
   . have D:n * i.size+news.length<=cur.size:=by rw [y,S,<- Cj];exact CW _ h
     have U:=run_append_room (P:=P) w t ty e i L G g n cap cur hg a m c news y f h1 h D;refine ⟨_,_,U,⟨p,.inr ⟨g,cap,_,rfl,Q,setRow_heap w g cur _ e _ hg,h,r,?_,?_⟩⟩,⟨rfl,rfl,rfl,by simp,fun k _ F=>setRow_other w g k _ (fun e=>F (by simp [Value.ownBlock,e]))⟩,fun k F=>.inl F⟩
     . grind
     grind
   . have s:∀j u,o[j]?=some u->w.cell? ((⟨g,0,none⟩:Addr).add j)=some u:=b.cells (g:=g) rfl;have U:=run_append_grow (P:=P) w t ty e i z L G hz ⟨g,0,none⟩ n cap o b.1 s a m c news y f (by omega) (by omega) (growslice_fits (by omega) l);have E:=grown cap (by omega) (some w.heap.size)
     grind [Value.ownBlock]
end
variable {base N:Nat} {g:Gh} {Pr:Nat->Prop} {A:X} {w0 w w':World} {lam:Nat->Option Nat} {F:Fm} {L:Lm} {a:Act}
def Gh.grow (g:Gh) (v':Value) (e size t':Nat) (ys:List Value):Gh:=
 { im:=fun b o=>if v'.ownBlock=some b then ys[o]? else g.im b o,mu:=g.mu,tau:=fun t=>if t=t' then some (v',e,size) else g.tau t,rm:=g.rm}
def uN (base:Nat) (g:Gh) (Pr:Nat->Prop) (A:X) (w:World) (e size:Nat) (v:Value) (n:Nat) (xs:List Value):Prop:=
 w.ownsRow base e size v n xs/\∀b,v.ownBlock=some b->(∀o,n * size<=o->g.im b o=none)/\¬Pr b/\(∀i,A.C i≠none->g.mu i≠some b)/\
  (∀t' v' e' s',A.tok t'=true->g.tau t'=some (v',e',s')->YU v'≠some b)
def Rel.nP (h:Rel base g Pr A w0 w) {e size t':Nat} {v':Value} (a:uN base g Pr A w e size v n xs)
 (j:∀k,v'.ownBlock=some k->v.ownBlock=some k\/w.heap.size<=k) (r:g.tau t'=none):g.le (g.grow v' e size t' (xs++news)):=by
 refine ⟨fun b o u c=>?_,fun _ _ h=>h,fun t x s=>?_,fun _ _ h=>h⟩
 . simp only [Gh.grow];split
   . rename_i m;rcases j b m with d|q
     . have i:o < n * size:=by
        rcases Ff o (n * size) with f|f
        . exact f
        . rw [(a.2 b d).1 o f] at c;cases c
       have l:o < xs.length:=by rw [a.1.1];exact i
       have p:=a.1.cells d o xs[o] (by simp [l]);rw [Addr.add_lit,Av,h.im b o u c] at p
       grind
     . have:=h.WT c;omega
   . exact c
 grind [Gh.grow]
def Rel.AY1 (h:Rel base g Pr A w0 w) {e size m t':Nat} {v':Value} (q:uN base g Pr A w e size v n xs)
 (c:w'.ownsRow base e size v' (n+m) (xs++news)) (B:w.grownBy w' v'.ownBlock) (T:∀k,v'.ownBlock=some k->v.ownBlock=some k\/w.heap.size<=k) (h0:g.tau t'=none):
 Rel base (g.grow v' e size t' (xs++news)) Pr (A.BV t') w0 w':=by
 have P:=h.nP (news:=news) q T h0
 have d:∀b,v'.ownBlock=some b->¬Pr b/\(∀i,A.C i≠none->g.mu i≠some b)/\(∀t2 y G L,A.tok t2=true->g.tau t2=some (y,G,L)->YU y≠some b):=by
  intro b a;rcases T b a with h2|h4
  . exact (q.2 b h2).2
  . refine ⟨fun Q=>?_,fun i K U=>?_,fun t2 y G L F j Z=>?_⟩
    . have:=(h.pr b Q).1;omega
    . cases hc:A.C i with
      |none=>exact K hc
      |some cs=>have:=h.bS hc U;omega
    . obtain ⟨v3,e3,s3,n3,h5,p,D,_⟩:=(h.tok t2 F).row;rw [j] at p;cases p;have:=(D.lt b Z).2;omega
 have f:∀b,b < w.heap.size->v'.ownBlock≠some b->w'.heap[b]?=w.heap[b]?:=fun b a r=>B.block b a (A5 r);have N:Below base w w':=⟨B.os,B.tape,B.output,B.size,fun k hk=>f k (by have:=h.bs;omega) fun e=>by have:=(c.lt k e).1;omega⟩;refine ⟨fun b o u S=>?_,fun i cs K=>?_,h.inj,fun t R=>?_,fun b Q=>?_,h.bel.trans N,Ai h.bs B.size,?_,h.st.mono P rfl rfl⟩
 . simp only [Gh.grow] at S;split at S
   . rename_i a;have:=c.cells a o u S
     rwa [Addr.add_lit,Av] at this
   . rename_i a;rw [World.cell?_of_block (w:=w) (f b (h.WT S) a)];exact h.im b o u S
 . have K:A.C i=some cs:=K;obtain ⟨b,U,x⟩:=h.shr i cs K;obtain ⟨vs,ty,hv,hl,R,hr⟩:=x.row;have a:v'.ownBlock≠some b:=fun e=>(d b e).2.1 i (by grind) U;refine ⟨b,U,x.ok,⟨vs,ty,by grind,hl,R,hr.mono P⟩,x.low,fun o=>?_,x.pr⟩;simp [Gh.grow,a,x.im o]
 . by_cases Y:t=t'
   . subst Y;refine ⟨v',e,size,n+m,xs++news,by simp [Gh.grow],ANV c,fun b a=>?_⟩;rw [sM c] at a;refine ⟨fun o x=>?_,(d b a).1,(d b a).2.1,fun t2 y G L r F j=>?_⟩
     . simp only [Gh.grow,a,if_true];rw [List.getElem?_eq_none_iff,c.1];exact x
     . simp only [X.BV,if_neg r] at F;simp only [Gh.grow,if_neg r] at j
       grind
   . simp only [X.BV,if_neg Y] at R;obtain ⟨y,G,L,n2,h3,j,s,E⟩:=(h.tok t R).row;have l:∀b,YU y=some b->v'.ownBlock≠some b:=fun b a e=>(d b e).2.2 t y G L R j a;refine ⟨y,G,L,n2,h3,by simp [Gh.grow,Y,j],Qf s fun b a=>f b (s.lt b a).2 (l b a),fun b a=>?_⟩;obtain ⟨k1,k2,k3,k4⟩:=E b a;refine ⟨fun o x=>by simp [Gh.grow,l b a,k1 o x],k2,k3,fun t3 v3 e3 s3 r h1 p=>?_⟩;by_cases z:t3=t'
     . subst z;simp only [Gh.grow,if_true] at p;grind [sM]
     . simp only [X.BV,if_neg z] at h1;simp only [Gh.grow,if_neg z] at p
       grind
 . have a:v'.ownBlock≠some b:=fun e=>(d b e).1 Q;exact ⟨Be (h.pr b Q).1 B.size,fun o=>by simp [Gh.grow,a,(h.pr b Q).2 o]⟩
 . obtain ⟨k,hk⟩:=h.fin;refine ⟨max k (t'+1),fun i K=>⟨(hk i (by omega)).1,?_,(hk i (by omega)).2.2⟩⟩
   grind [Gh.grow]
def Rel.AZE (h:Rel base g Pr A w0 w) {t e size:Nat} (q:A.tok t=true) (p:g.tau t=some (v,e,size)) (o:AL9 v=none):
 ∃n u,uN base g Pr (A.Bh t) w e size v n u:=by
 obtain ⟨F,y,D,m,j,f,a,d⟩:=(h.tok t q).row;rw [p] at f;cases f;have c:w.ownsRow base e size v m j:=by unfold WW at a;rw [o] at a;exact a
 refine ⟨m,j,c,fun b l=>?_⟩;rw [<- sM c] at l;obtain ⟨k1,r,s,z⟩:=d b l;refine ⟨k1,r,s,fun t' E x B i=>?_⟩;have k:t'≠t:=fun e=>by subst e;simp [X.Bh] at i
 simp only [X.Bh,if_neg k] at i
 grind
def X.Yk (A:X) (t:Nat):(A.Bh t).le A:=⟨fun _ _ h=>h,fun t' h=>by
 grind [X.Bh],rfl,fun _ _ h=>h⟩
def uN.nil (base:Nat) (g:Gh) (Pr:Nat->Prop) (A:X) (w:World) (e size:Nat):uN base g Pr A w e size (.slice none 0 0) 0 []:=
 ⟨World.ownsRow_nil w base e size,fun b a=>by simp [Value.ownBlock] at a⟩
end
inductive Q09 where
 |t (n:Nat)
 |c (v:I)
variable {x:Q09}
inductive EK where
 |usd
 |wZ (ne:Bool)
 |apps (e:Nat)
 |AJG (e:Nat)
 |alt (t:Nat) (z:List I)
 |zV (e s:Nat)
 |mmk
 |AIH
 |ANJ
 |ABB
inductive Q06 where
 |mv (x:Q09)
 |pick (c a b:Q09)
 |fld (x:Q09) (off:Nat)
 |ld (x:Q09) (n:Option Nat)
 |ix (x i:Q09) (size:Nat)
 |AS4 (x i:Q09)
 |len (x:Q09)
 |AOD (x:Q09)
 |bin (op:BinOp) (x y:Q09)
 |APJ (op:BinOp) (x y:Q09)
 |un (op:UnOp) (x:Q09)
 |conv (k:IntKind) (x:Q09)
 |bld (z:List I) (parts:List (Nat×Nat×Q09))
 |bsl (size len:Nat) (z:List I) (parts:List (Nat×Nat×Q09))
 |mkf (f:FuncId) (first Ae:List Q09)
 |ext (x:Q09) (i:Nat)
 |nck (x:Q09)
 |mm (isMax:Bool) (x y:Q09)
 |box (x:Q09) (sh:Bool)
 |al (z:List I) (sh:Bool)
 |st (x v:Q09) (n:Nat)
 |msl (e size bytes:Nat) (z:List I) (l c:Q09)
 |app (e size bytes:Nat) (s x:Q09)
 |call (f:FuncId) (args:List Q09)
 |Z9 (x:Q09) (args:List Q09)
 |sO (f:FuncId) (args:List Q09)
 |ldl (x:Q09) (n:Option Nat)
 |fd (x:Q09) (off:Nat) (n:Option Nat)
 |ssl (x:Q09) (lo hi:Option Q09)
 |sls (x:Q09) (lo hi mx:Option Q09) (size:Nat)
 |AIS (ne:Bool) (x:Q09)
 |AOJ (ne:Bool) (n:Nat) (x y:Q09)
 |mm3 (isMax:Bool) (x y z:Q09)
 |APL (x:Q09)
 |uO (e size bytes:Nat) (s x:Q09)
 |trn (x hi:Q09)
 |lT (e size len:Nat) (z:List I) (parts:List (Nat×Nat×Q09))
 |ex (k:EK) (xs:List Q09)
 |eK (s:Bool) (m k v:Q09)
variable {c:Q06}
structure Q where
 dst:Option Nat
 o:Q06
 grd:Option (Nat×Bool)
def xv (F:Fm):Q09->I
 | .t n=>F n
 | .c v=>v
def put (d:Nat) (v:I) (F:Fm):Fm:=fun s=>if s=d then v else F s
def BW (d:Option Nat) (v:I) (F:Fm):Fm:=match d with|some d=>put d v F|none=>F
def CN (d:Nat) (cs:List I) (L:Lm):Lm:=fun s=>if s=d then some cs else L s
def I.dv:I->Option DV
 | .d x=>some x
 | .Ac=>some (.sl [])
 | .own _ _ _ rows=>some (.sl rows)
 | .clip rows=>some (.sl rows)
 | .Dt=>some .Dt
 |_=>none
def I.rows:I->Option (List (List DV))
 | .d (.sl rows)=>some rows
 | .Ac=>some []
 | .own _ _ _ rows=>some rows
 | .clip rows=>some rows
 |_=>none
def AHU:I->Nat->Option I
 | .lp k o,n=>some (.lp k (o+n))
 | .gp i o,n=>some (.gp i (o+n))
 | .ep r o,n=>some (.ep r (o+n))
 | .d (.ptr r),n=>some (.ep r n)
 |_,_=>none
def AJT (v:I):Option I:=if v.Bo then some v else none
def aI {v u:I} (h:AJT v=some u):u=v/\v.Bo=true:=by
 unfold AJT at h
 grind
def rdC (cs:List I) (o:Nat):Option Nat->Option I
 |none=>(cs[o]?).bind AJT
 |some n=>if o+n<=cs.length then some (.agg ((cs.drop o).take n)) else none
def ldA (L:Lm) (A:X):I->Option Nat->Option I
 | .lp k o,n=>(L k).bind (rdC · o n)
 | .gp i o,n=>(A.C i).bind (rdC · o n)
 | .ep r o,n=>rdC (r.map I.d) o n
 | .d (.ptr r),n=>rdC (r.map I.d) 0 n
 |_,_=>none
def AA3 (L:Lm):I->Option Nat->Option I
 | .lp k o,n=>(L k).bind (rdC · o n)
 |_,_=>none
def ixR (rows:List (List DV)) (n:Int) (size:Nat):Option I:=
 if 0<=n then (rows[n.toNat]?).bind fun r=>if r.length=size then some (.ep r 0) else none else none
def ixA:I->I->Nat->Option I
 | .ms i n _ _,.d (.int _ m),size=>if 0<=m/\m < n then some (.gp i (m.toNat * size)) else none
 | .mv i o n s _,.d (.int _ m),size=>if (0<=m/\m < n)/\s=size then some (.gp i ((o+m.toNat) * size)) else none
 | .d (.sl rows),.d (.int _ m),size=>ixR rows m size
 | .own _ _ _ rows,.d (.int _ m),size=>ixR rows m size
 | .clip rows,.d (.int _ m),size=>ixR rows m size
 |_,_,_=>none
def tD:I->I->Option I
 | .d (.str s),.d (.int _ m)=>if 0<=m then (s[m.toNat]?).map fun b=>.d (.int .u8 b.toNat) else none
 |_,_=>none
def zH:I->Option I
 | .d (.str s)=>some (.d (.int .i64 s.length))
 |_=>none
def Vh:I->Option I
 | .d (.sl rows)=>some (.d (.int .i64 rows.length))
 | .Ac=>some (.d (.int .i64 0))
 | .own _ _ _ rows=>some (.d (.int .i64 rows.length))
 | .clip rows=>some (.d (.int .i64 rows.length))
 | .ms _ n _ _=>some (.d (.int .i64 n))
 | .mv _ _ n _ _=>some (.d (.int .i64 n))
 |_=>none
def AM4 (op:BinOp) (k:IntKind) (a b:Int):Option I:=
 match op with
 | .add=>some (.d (.int k (k.wrap (a+b))))
 | .sub=>some (.d (.int k (k.wrap (a - b))))
 | .mul=>some (.d (.int k (k.wrap (a * b))))
 | .quo=>if b=0 then none else some (.d (.int k (k.wrap (a.tdiv b))))
 | .rem=>if b=0 then none else some (.d (.int k (a.tmod b)))
 | .eql=>some (.d (.bool (a==b)))
 | .neq=>some (.d (.bool (a != b)))
 | .lss=>some (.d (.bool (decide (a < b))))
 | .leq=>some (.d (.bool (decide (a<=b))))
 | .gtr=>some (.d (.bool (decide (b < a))))
 | .geq=>some (.d (.bool (decide (b<=a))))
 |_=>none
def jX (op:BinOp) (x y:List UInt8):Option I:=
 match op with
 | .add=>if x.length+y.length<=maxLen then some (.d (.str (x++y))) else none
 | .eql=>some (.d (.bool (x==y)))
 | .neq=>some (.d (.bool (!(x==y))))
 | .lss=>some (.d (.bool (Op.bytesLess x y)))
 | .leq=>some (.d (.bool (Op.bytesLess x y||x==y)))
 | .gtr=>some (.d (.bool (!(Op.bytesLess x y||x==y))))
 | .geq=>some (.d (.bool (!Op.bytesLess x y)))
 |_=>none
def ALY:BinOp->I->I->Option I
 |op,.d (.int k a),.d (.int k' b)=>if k=k' then AM4 op k a b else none
 |op,.d (.str a),.d (.str b)=>jX op a b
 |_,_,_=>none
def xG:BinOp->I->I->Option I
 | .eql,.d (.bool a),.d (.bool b)=>some (.d (.bool (a==b)))
 | .neq,.d (.bool a),.d (.bool b)=>some (.d (.bool (!(a==b))))
 |_,_,_=>none
def unA:UnOp->I->Option I
 | .not,.d (.bool b)=>some (.d (.bool (!b)))
 | .neg,.d (.int k n)=>some (.d (.int k (k.wrap (0 - n))))
 |_,_=>none
def xR:IntKind->I->Option I
 |k,.d (.int _ n)=>some (.d (.int k (k.wrap n)))
 |_,_=>none
def AKX (v:I):Option I:=if v.BS then some v else none
def sJ {v u:I} (h:AKX v=some u):u=v/\v.BS=true:=by
 unfold AKX at h
 grind
def AMH:I->Nat->Option I
 | .tup vs,i=>(vs[i]?).bind AKX
 |_,_=>none
def AR3:I->Option I
 | .gp i o=>some (.gp i o)
 | .lp k o=>some (.lp k o)
 | .ep r o=>some (.ep r o)
 | .d (.ptr r)=>some (.d (.ptr r))
 |_=>none
def Vm:I->Option Nat
 | .d (.int _ n)=>if 0<=n then some n.toNat else none
 |_=>none
def fZ (n:Nat) (lo hi:Option I):Option (Nat×Nat):=
 (match lo with|none=>some 0|some x=>Vm x).bind fun l=>(match hi with|none=>some n|some x=>Vm x).bind fun h=>if l<=h/\h<=n then some (l,h) else none
def nG (x:I) (lo hi:Option I):Option I:=
 match x with
 | .d (.str s)=>(fZ s.length lo hi).map fun b=>.d (.str ((s.take b.2).drop b.1))
 |_=>none
def Y4 (rows:List (List DV)) (size:Nat):Bool:=rows.all fun r=>r.length==size
def Z3 (rows:List (List DV)) (lo hi mx:Option I) (size:Nat):Option I:=
 if lo.isNone||Y4 rows size then
  (fZ rows.length lo hi).bind fun b=>
    match hi,mx with
    |_,none=>some (.d (.sl ((rows.take b.2).drop b.1)))
    |some _,some m=>if Vm m=some b.2 then some (.clip ((rows.take b.2).drop b.1)) else none
    |_,_=>none
           else none
def AOE (x:I) (lo hi mx:Option I) (size:Nat):Option I:=
 match x,lo,hi,mx with
 | .Ac,none,some h,none=>if Vm h=some 0 then some .Ac else none
 | .ms i n s e,some l,none,none=>(Vm l).bind fun l=>if l<=n/\s=size then some (.mv i l (n - l) s e) else none
 | .ms i n s e,none,some h,none=>(Vm h).bind fun h=>if h<=n then some (.ms i h s e) else none
 |x,lo,hi,mx=>(x.rows).bind fun rows=>Z3 rows lo hi mx size
def yZ (ne:Bool):I->Option I
 | .Dt=>some (.d (.bool (!ne)))
 | .d .Dt=>some (.d (.bool (!ne)))
 | .d (.ptr _)=>some (.d (.bool ne))
 | .gp _ _=>some (.d (.bool ne))
 | .ep _ _=>some (.d (.bool ne))
 | .lp _ _=>some (.d (.bool ne))
 |_=>none
def Oc:List I->List I->Option Bool
 |[],[]=>some true
 | .d (.int k a)::l,.d (.int k' b)::m=>if k=k' then (Oc l m).map fun r=>a==b&&r else none
 |_,_=>none
def AFT (ne:Bool) (n:Nat):I->I->Option I
 | .agg l,.agg m=>if l.length=n then (Oc l m).map (fun r=>.d (.bool (if ne then !r else r))) else none
 |_,_=>none
def fdA:I->Nat->Option Nat->Option I
 | .agg cs,off,n=>rdC cs off n
 |_,_,_=>none
def mmA (isMax:Bool):I->I->Option I
 | .d (.int k a),.d (.int k' b)=>if k=k' then some (.d (.int k (if isMax then (if b>a then b else a) else (if b < a then b else a)))) else none
 |_,_=>none
def LA (z:List I) (F:Fm):List (Nat×Nat×Q09)->Option (List I)
 |[]=>some z
 |(off,size,x)::rest=>
  let cs:=(xv F x).cells
  if BA cs&&cs.length==size&&decide (off+size<=z.length) then LA (z.take off++cs++z.drop (off+size)) F rest else none
def dvs:List I->Option (List DV)
 |[]=>some []
 |c::cs=>do some ((<- c.dv)::(<- dvs cs))
def chunk (size:Nat):Nat->List DV->List (List DV)
 |0,_=>[]
 |n+1,l=>l.take size::chunk size n (l.drop size)
def xvs (F:Fm) (l:List Q09):List I:=l.map (xv F)
def AFE:I->I->I->Option I
 | .d (.bool c),a,b=>some (if c then a else b)
 |_,_,_=>none
def Bk (s:List UInt8):List (List DV):=s.map fun b=>[.int .u8 b.toNat]
def byteOf:List DV->Option UInt8
 |[.int .u8 n]=>if 0<=n/\n < 256 then some (UInt8.ofNat n.toNat) else none
 |_=>none
def bytesOf:List (List DV)->Option (List UInt8)
 |[]=>some []
 |r::l=>(byteOf r).bind fun b=>(bytesOf l).map (b::·)
def EK.pure:EK->Bool
 | .usd=>true
 |_=>false
def xV:EK->List I->Option I
 | .usd,[.own t e 1 (r::rows)]=>(bytesOf (r::rows)).map fun s=>.bp t e s
 |_,_=>none
def exP (k:EK) (args:List I):Option I:=if args.all I.BS then xV k args else none
def ABE:I->Option Bool
 | .Ac=>some true
 | .d (.sl (_::_))| .own _ _ _ (_::_)| .clip (_::_)=>some false
 | .ms _ _ _ _| .mv _ _ _ _ _=>some false
 |_=>none
def pv (F:Fm) (L:Lm) (A:X):Q06->Option I
 | .mv x=>some (xv F x)
 | .pick c a b=>AFE (xv F c) (xv F a) (xv F b)
 | .fld x off=>AHU (xv F x) off
 | .ld x n=>ldA L A (xv F x) n
 | .ix x i size=>ixA (xv F x) (xv F i) size
 | .AS4 x i=>tD (xv F x) (xv F i)
 | .len x=>Vh (xv F x)
 | .AOD x=>zH (xv F x)
 | .bin op x y=>ALY op (xv F x) (xv F y)
 | .APJ op x y=>xG op (xv F x) (xv F y)
 | .un op x=>unA op (xv F x)
 | .conv k x=>xR k (xv F x)
 | .bld z ps=>(LA z F ps).map .agg
 | .bsl size len z ps=>((LA z F ps).bind dvs).map fun l=>.d (.sl (chunk size len l))
 | .mkf f first Ae=>if (xvs F first++xvs F Ae).all I.BS then some (.fn f (xvs F first) (xvs F Ae)) else none
 | .ext x i=>AMH (xv F x) i
 | .nck x=>AR3 (xv F x)
 | .mm b x y=>mmA b (xv F x) (xv F y)
 | .ldl x n=>AA3 L (xv F x) n
 | .fd x off n=>fdA (xv F x) off n
 | .ssl x lo hi=>nG (xv F x) (lo.map (xv F)) (hi.map (xv F))
 | .sls x lo hi mx size=>AOE (xv F x) (lo.map (xv F)) (hi.map (xv F)) (mx.map (xv F)) size
 | .AIS ne x=>yZ ne (xv F x)
 | .AOJ ne n x y=>AFT ne n (xv F x) (xv F y)
 | .mm3 b x y z=>(mmA b (xv F x) (xv F y)).bind fun v=>mmA b v (xv F z)
 | .APL x=>(dvs (xv F x).cells).map fun ds=>.d (.ptr ds)
 | .ex k xs=>exP k (xvs F xs)
 |_=>none
def cv:Value->Option I
 | .bool b=>some (.d (.bool b))
 | .int k n=>if k.min<=n/\n<=k.max then some (.d (.int k n)) else none
 | .string s=>if s.data.toList.length<=maxLen then some (.d (.str s.data.toList)) else none
 | .slice none 0 0=>some .Ac
 | .pointer none=>some .Dt
 | .nilFunc=>some .Jd
 |_=>none
def cvs:List Value->Option (List I)
 |[]=>some []
 |v::l=>do some ((<- cv v)::(<- cvs l))
def cvA:Value->I
 | .agg a=>match cvs a.toList with
  |some l=>.agg l
  |none=>.undef
 |v=>(cv v).getD .undef
def xo:Operand->Option Q09
 | .tmp n=>some (.t n)
 | .const v=>some (.c (cvA v))
 | .func f=>some (.c (.fn f [] []))
 | .global _=>none
def xos:List Operand->Option (List Q09)
 |[]=>some []
 |x::l=>do some ((<- xo x)::(<- xos l))
def W5 (P:Program) (t:TypeId):Option (List I):=do
 let i <- P.info? t
 let z <- i.zero
 cvs z.cells.toList
def szT (P:Program) (t:TypeId):Option Nat:=(P.info? t).map (·.size)
def ldN (P:Program) (t:TypeId):Option (Option Nat):=
 match P.underlying t with
 |some (.struct _)|some (.array _ _)=>(szT P t).map some
 |some _=>some none
 |none=>none
def AMJ (P:Program) (s:TypeId) (f:Nat):Option Nat:=
 match P.underlying s with
 |some (.struct fs)=>(fs[f]?).bind fun fd=>(szT P fd.type).bind fun n=>if n=0 then none else some fd.offset
 |_=>none
def UZ (P:Program) (t:TypeId):Option TypeId:=
 match P.underlying t with
 |some (.slice e)=>some e
 |_=>none
def places (P:Program) (t:TypeId):Option (Nat->Option (Nat×Nat)):=
 match P.underlying t with
 |some (.struct fs)=>(fs.toList.mapM fun f=>(P.info? f.type).map fun i=>(f.offset,i.size)).map fun ps i=>ps.toArray[i]?
 |some (.array _ e)=>(P.info? e).map fun ie i=>some (i * ie.size,ie.size)
 |_=>none
def Vp (pl:Nat->Option (Nat×Nat)):List (Nat×Operand)->Option (List (Nat×Nat×Q09))
 |[]=>some []
 |(i,x)::l=>do
  let (off,n) <- pl i
  let x <- xo x
  some ((off,n,x)::(<- Vp pl l))
def xoo:Option Operand->Option (Option Q09)
 |none=>some none
 |some y=>(xo y).map some
def AIA (P:Program) (t:TypeId):Bool:=match P.underlying t with|some (.int _)=>true|_=>false
def ASI (op:BinOp) (x y:Operand):Option Q06:=
 match op,y with
 | .eql,.const (.pointer none)=>(xo x).map (.AIS false ·)
 | .neq,.const (.pointer none)=>(xo x).map (.AIS true ·)
 |_,_=>none
def sU {op:BinOp} {x:Operand} (h:ASI op x y=some c):y= .const (.pointer none)/\∃ne a,op=(if ne then .neq else .eql)/\xo x=some a/\c= .AIS ne a:=by
 unfold ASI at h;split at h
 . simp only [AO] at h
   grind
 . simp only [AO] at h
   grind
 . cases h
def AYZ (P:Program) (s:TypeId) (f:Nat):Option (Option Nat):=
 match P.underlying s with
 |some (.struct fs)=>(fs[f]?).bind fun fd=>ldN P fd.type
 |_=>none
def zJ (op:BinOp) (n:Nat) (x y:Operand):Option Q06:=
 match op with
 | .eql=>(xo x).bind fun a=>(xo y).map (.AOJ false n a ·)
 | .neq=>(xo x).bind fun a=>(xo y).map (.AOJ true n a ·)
 |_=>none
def tH {op:BinOp} {x:Operand} (h:zJ op n x y=some c):∃ne a b,op=(if ne then .neq else .eql)/\xo x=some a/\xo y=some b/\c= .AOJ ne n a b:=by
 unfold zJ at h;split at h
 . simp only [AF,AO] at h
   grind
 . simp only [AF,AO] at h
   grind
 . cases h
def AZ1 (P:Program) (e:TypeId) (x:Operand) (lo hi mx:Option Operand):Option Q06:=
 match lo,hi,mx with
 |none,some h,none=>(xo x).bind fun a=>(xo h).bind fun b=>(szT P e).map fun _=>.trn a b
 |_,_,_=>none
def zL {P:Program} {x:Operand} {lo hi mx:Option Operand} (h:AZ1 P e x lo hi mx=some c):
 lo=none/\∃z,hi=some z/\mx=none/\∃a b sz,xo x=some a/\xo z=some b/\szT P e=some sz/\c= .trn a b:=by
 unfold AZ1 at h;split at h
 . simp only [AF,AO] at h
   grind
 . cases h
def Ui (P:Program) (t:TypeId):Bool:=
 match P.underlying t with
 |some (.struct fs)=>(fs.toList.zipIdx.all fun (f,i)=>f.offset==i&&f.name != "_"&&AIA P f.type)&&szT P t==some fs.size&& !P.stoodInHeld t&& !P.eqGuardType P.depth t
 |_=>false
def APW (P:Program) (sh:Bool):Builtin->List Operand->List TypeId->Option Q06
 | .len,[x],[t]=>match P.underlying t with
  |some .string=>(xo x).map .AOD
  |some (.slice _)=>(xo x).map .len
  |_=>none
 | .max,[x,y],_=>do some (.mm true (<- xo x) (<- xo y))
 | .max,[x,y,z],_=>do some (.mm3 true (<- xo x) (<- xo y) (<- xo z))
 | .min,[x,y],_=>do some (.mm false (<- xo x) (<- xo y))
 | .append,[s,x],[t,u]=>do
  let e <- UZ P t
  let i <- P.info? e
  let z <- i.zero
  if t=u/\z.cells.size=i.size/\0 < i.size then (do
   let a <- xo s
   let b <- xo x
   some (if sh then .uO e i.size i.bytes a b else .app e i.size i.bytes a b)) else none
 |_,_,_=>none
def c8 (P:Program) (sh:Bool) (c:Call):Option Q06:=
 match c.callee with
 | .builtin b=>APW P sh b c.args.toList c.argTypes.toList
 | .value (.func f)=>
  if ((P.funcs[f]?).bind (·.body)).isSome&&((P.funcs[f]?).map (·.name)) != some "runtime.NumGoroutine" then (xos c.args.toList).map (.call f ·) else none
 | .value (.tmp n)=>(xos c.args.toList).map (.Z9 (.t n) ·)
 |_=>none
def xP (P:Program) (sh im lc:Bool):Op->Option Q06
 | .move x| .assign x=>(xo x).map .mv
 | .pick c a b=>do some (.pick (<- xo c) (<- xo a) (<- xo b))
 | .alloc t=>(W5 P t).map (.al · sh)
 | .box _ x=>(xo x).map fun x=>if im then .APL x else .box x sh
 | .field s x f=>do some (.fd (<- xo x) (<- AMJ P s f) (<- AYZ P s f))
 | .slice t x lo hi mx=>match P.underlying t with
  |some .string=>match mx with
   |none=>do some (.ssl (<- xo x) (<- xoo lo) (<- xoo hi))
   |some _=>none
  |some (.slice e)=>if sh then AZ1 P e x lo hi mx else do some (.sls (<- xo x) (<- xoo lo) (<- xoo hi) (<- xoo mx) (<- szT P e))
  |_=>none
 | .fieldAddr s x f=>do some (.fld (<- xo x) (<- AMJ P s f))
 | .load t x=>do
  let a <- xo x
  let n <- ldN P t
  some (if lc then .ldl a n else .ld a n)
 | .store t x v=>do some (.st (<- xo x) (<- xo v) (<- szT P t))
 | .indexAddr t x i=>do some (.ix (<- xo x) (<- xo i) (<- szT P (<- UZ P t)))
 | .index t x i=>match P.underlying t with
  |some .string=>do some (.AS4 (<- xo x) (<- xo i))
  |_=>none
 | .binOp op t x y _=>match P.underlying t with
  |some .bool=>do some (.APJ op (<- xo x) (<- xo y))
  |some (.int _)|some .string=>do some (.bin op (<- xo x) (<- xo y))
  |some (.pointer _)=>ASI op x y
  |some (.struct fs)=>if Ui P t then zJ op fs.size x y else none
  |_=>none
 | .unOp op _ x=>do some (.un op (<- xo x))
 | .convert s t x=>match P.underlying s,P.underlying t with
  |some (.int _),some (.int k)=>do some (.conv k (<- xo x))
  |_,_=>none
 | .build t ps=>do
  let z <- W5 P t
  let pl <- places P t
  some (.bld z (<- Vp pl ps.toList))
 | .buildSlice t len ps=>do
  let e <- UZ P t
  let z <- W5 P e
  let n <- szT P e
  if z.length=n/\0 < n/\len * n<=4096/\len<=4096 then
   (do
     let cp <- Vp (fun i=>some (i * n,n)) ps.toList
     some (if sh then .lT e n len (AH len z).flatten cp else .bsl n len (AH len z).flatten cp))
                                                                          else none
 | .makeFunc (.func f) first Ae=>do some (.mkf f (<- xos first.toList) (<- xos Ae.toList))
 | .extract x i=>(xo x).map (.ext · i)
 | .nilCheck x=>(xo x).map .nck
 | .makeSlice t l c=>do
  let e <- UZ P t
  let i <- P.info? e
  let z <- W5 P e
  if z.length=i.size/\0 < i.size then some (.msl e i.size i.bytes z (<- xo l) (<- xo c)) else none
 | .call c=>c8 P sh c
 |_=>none
def AbN (P:Program) (e:TypeId):Bool:=match P.underlying e with|some (.int .u8)=>true|_=>false
def APY (P:Program) (im:Bool):Builtin->List Operand->List TypeId->Option Q06
 | .append,[s,x],[t,u]=>(UZ P t).bind fun e=>(P.info? e).bind fun i=>if im then (if t=u/\0 < i.size/\i.bytes<=10000/\i.zero.map (·.cells.size)=some i.size then (xo s).bind fun a=>(xo x).map fun b=>.ex (.zV e i.size) [a,b] else none) else i.zero.bind fun z=>match P.underlying u with
  |some .string=>match z with
   | .int .u8 0=>if i.size=1/\i.bytes=1/\AbN P e then (xo s).bind fun a=>(xo x).map fun b=>.ex (.apps e) [a,b] else none
   |_=>none
  |_=>none
 | .unsafeSliceData,[x],[t]=>match P.underlying t with
  |some (.slice _)=>(xo x).map fun a=>.ex .usd [a]
  |_=>none
 | .unsafeString,[x,y],[pt,_]=>match P.underlying pt with
  |some (.pointer e)=>if AbN P e/\P.cellsOf e=1 then (xo x).bind fun a=>(xo y).map fun b=>.ex (.AJG e) [a,b] else none
  |_=>none
 | .len,[x],[t]=>match P.underlying t with
  |some (.map _ _)=>(xo x).map fun a=>.ex .AIH [a]
  |_=>none
 |_,_,_=>none
def rS (P:Program) (e:TypeId):Bool:=match P.underlying e with|some (.int .i64)=>true|_=>false
def NH (P:Program) (k:TypeId):Bool:=match P.underlying k with
 |some (.struct fs)=>(match fs.toList with
  |[f,g]=>f.name != "_"&&g.name != "_"&&f.offset==0&&g.offset==1&&rS P f.type&&(match P.underlying g.type with|some .string=>true|_=>false)
  |_=>false)&& !P.stoodInHeld k
 |_=>false
def zB (P:Program) (e:TypeId):Bool:=match P.info? e with
 |some i=>match i.zero with|some (.bool false)=>true|_=>false
 |none=>false
def AXO (P:Program) (e:TypeId):Bool:=match P.info? e with
 |some i=>match i.zero with|some (.int .i64 0)=>true|_=>false
 |none=>false
def APX (P:Program) (sh im:Bool):Op->Option Q06
 | .alloc t=>if sh then (W5 P t).map fun z=>.ex (.alt t z) [] else none
 | .binOp op t x y _=>match P.underlying t,y with
  |some (.slice _),.const (.slice none 0 0)=>match op with
   | .eql=>(xo x).map fun a=>.ex (.wZ false) [a]
   | .neq=>(xo x).map fun a=>.ex (.wZ true) [a]
   |_=>none
  |_,_=>none
 | .makeMap _ none=>some (.ex .mmk [])
 | .lookup t x y true=>match P.underlying t with
  |some (.map k e)=>if rS P k=true/\AXO P e=true then (xo x).bind fun a=>(xo y).map fun b=>.ex .ANJ [a,b] else none
  |_=>none
 | .lookup t x y false=>match P.underlying t with
  |some (.map k e)=>if NH P k=true/\zB P e=true then (xo x).bind fun a=>(xo y).map fun b=>.ex .ABB [a,b] else none
  |_=>none
 | .mapUpdate t x y z=>match P.underlying t with
  |some (.map k _)=>if rS P k=true\/NH P k=true then (xo x).bind fun a=>(xo y).bind fun b=>(xo z).map fun c=>.eK (NH P k) a b c else none
  |_=>none
 | .call c=>match c.callee with
  | .builtin b=>APY P im b c.args.toList c.argTypes.toList
  |_=>none
 |_=>none
section
variable {P:Program} {base N:Nat} {g:Gh} {Pr:Nat->Prop} {A:X} {w0 w w':World} {lam:Nat->Option Nat} {F:Fm} {L:Lm} {a:Act}
def VOp (P:Program) (o:Oper) (F:Fm) (L:Lm) (A:X) (v:I):Prop:=
 ∀(base:Nat) (g:Gh) (lam:Nat->Option Nat) (Pr:Nat->Prop) (N:Nat) (a:Act) (w0 w:World),Bu base g lam Pr N F L A a w0 w->
  ∃x g' w',(execOp a.eval o).run P w= .ok (.value x) w'/\g.le g'/\KP Pr w w'/\SV g' lam v x/\Bu base g' lam Pr N F L A a w0 w'
def VOp.same {v:I}
 (h:∀(base:Nat) (g:Gh) (lam:Nat->Option Nat) (Pr:Nat->Prop) (N:Nat) (a:Act) (w0 w:World),Bu base g lam Pr N F L A a w0 w->
   ∃x,(execOp a.eval o).run P w= .ok (.value x) w/\SV g lam v x):VOp P o F L A v:=by
 intro base g lam Pr N a w0 w b
 grind [Gh.le_refl,KP.refl]
theorem pX {x:I} (h:cv v=some x) (g:Gh):VR g x v:=by
 unfold cv at h;split at h
 . cases h;exact .d .bool
 . split at h
   . rename_i a;cases h;exact .d (.int a)
   . cases h
 . rename_i s;split at h
   . rename_i b;cases h;have:(HL s.data.toList.toArray)=s:=by cases s;simp
     have c:VR g (.d (.str s.data.toList)) (.string ⟨s.data.toList.toArray⟩):= .d (.str b);simp_all
   . cases h
 . cases h;exact .Ac
 . cases h;exact .Dt
 . cases h;exact .Jd
 . cases h
def AJX {x:I} (h:cv v=some x):x.Bo=true:=by
 unfold cv at h;split at h<;>first|(cases h;rfl)|(split at h<;>first|(cases h;rfl)|cases h)|cases h
def SV.mono {g g':Gh} (a:g.le g') {x:I} {v:Value} (h:SV g lam x v):SV g' lam x v:=by
 cases x<;>first|exact VR.mono a h|exact h
def AJY:∀ {vs:List Value} {l:List I},cvs vs=some l->∀g:Gh,vs.length=l.length/\(∀c∈l,c.Bo=true)/\∀(i:Nat) (c:I) (v:Value),l[i]?=some c->vs[i]?=some v->VR g c v
 |[],l,h,g=>by cases h;grind
 |v::vs,l,h,g=>by
  simp only [cvs,AX,AF,AP] at h;obtain ⟨a,e,r,f,rfl⟩:=h;obtain ⟨d,j,k⟩:=AJY f g;refine ⟨by simp [d],fun c b=>?_,fun i c u m n=>?_⟩
  . rcases Ah.1 b with rfl|b
    . exact AJX e
    grind
  grind [pX]
def AL7 (v:Value) (g:Gh):VR g (cvA v) v:=by
 have h:VR g ((cv v).getD .undef) v:=by
  cases f:cv v with
  |none=>exact .undef
  |some c=>exact pX f g
 unfold cvA;split
 . rename_i a;split
   . rename_i l i;obtain ⟨b,d,e⟩:=AJY i g;have:=VR.agg (g:=g) b d e;simp_all
   . exact .undef
 . exact h
def Aq (b:xo y=some x) (h:Bu base g lam Pr N F L A a w0 w):SV g lam (xv F x) (a.eval y):=by
 cases y with
 |tmp n=>simp only [xo,AP] at b;subst b;exact h.tm n
 |const v=>
  simp only [xo,AP] at b;subst b;exact SV.FT (AL7 v g)
 |func f=>
  simp only [xo,AP] at b;subst b;exact VR.fn (fs:=[]) (cs:=[]) rfl rfl (by simp) (by simp)
 |global _=>cases b
def B7 {t:TypeId} {d:TypeDesc} (h:P.underlying t=some d):(underlying t).run P w= .ok d w:=by
 simp [underlying,h]
def Es {t:TypeId} (h:szT P t=some n):(sizeOf t).run P w= .ok n w:=by
 simp only [szT,AO] at h;obtain ⟨i,a,rfl⟩:=h;simp [sizeOf,typeInfo,a]
def s8 {t:TypeId} (h:ldN P t=some none):(isAgg t).run P w= .ok false w:=by
 unfold ldN at h;cases a:P.underlying t with
 |none=>grind
 |some d=>
  rw [a] at h;cases d<;>first|(simp [isAgg,B7 a];done)|simp_all
def s9 {t:TypeId} (h:ldN P t=some (some n)):(isAgg t).run P w= .ok true w/\szT P t=some n:=by
 unfold ldN at h;cases a:P.underlying t with
 |none=>grind
 |some d=>
  rw [a] at h;cases d<;>simp at h<;>exact ⟨by simp [isAgg,B7 a],h⟩
def Vj {t:TypeId} {n:Option Nat} (q:ldN P t=some n) {o:Nat} {v:I} (k:VRs g cs vs) (p:BA cs=true)
 (e:∀j u,vs[j]?=some u->w.cell? ⟨b,off+j,none⟩=some u) (d:rdC cs o n=some v):
 ∃x,(Instr.loadAt t (.pointer (some ⟨b,off+o,none⟩))).run P w= .ok x w/\VR g v x:=by
 cases n with
 |none=>
  simp only [rdC,AF] at d;obtain ⟨v0,d,h⟩:=d;obtain ⟨rfl,_⟩:=aI h;obtain ⟨x,D,m⟩:=k.at o _ d;exact ⟨x,by simp [Instr.loadAt,Instr.sureAddr,loadVar,s8 q,e o x D],m⟩
 |some n=>
  simp only [rdC] at d;split at d
  . rename_i B;cases d;obtain ⟨s,y⟩:=s9 (w:=w) q;have f:=k.length;have l:=(k.drop o).take n;refine ⟨.agg ((vs.drop o).take n).toArray,?_,.agg (by simp [f]) ?_ (fun i c u p r=>l.idx i c u p r)⟩
    . have z:((vs.drop o).take n).length=n:=by simp;omega
      have a:=run_loadCells_list (P:=P) w ⟨b,off+o,none⟩ ((vs.drop o).take n) (fun j u r=>by
       grind [Addr.add_lit,Nat.add_assoc])
      rw [z] at a;simp [Instr.loadAt,Instr.sureAddr,loadVar,s,Es y,a]
    grind [I7,DA,BA,Ao]
  . cases d
def AC7 {vs:Array Value} {fr:Nat×Nat} (h:w.heap[b]?=some (.cells vs ty fr)):∀j u,vs.toList[j]?=some u->w.cell? ⟨b,0+j,none⟩=some u:=by
 intro j u a;rw [Av,cell_of_row w b j vs ty fr h]
 grind
def Xd (r:List DV):BA (r.map I.d)=true:=by simp [BA,I.Bo]
def AEZ {t:TypeId} {n:Option Nat} (S:ldN P t=some n) (h:Bu base g lam Pr N F L A a w0 w) (E:SV g lam p pvl) {v:I} (q:ldA L A p n=some v):
 ∃x,(Instr.loadAt t pvl).run P w= .ok x w/\VR g v x:=by
 cases p with
 |lp k o=>
  obtain ⟨b,T,rfl⟩:=E;simp only [ldA,AF] at q;obtain ⟨cs,B,q⟩:=q;obtain ⟨Y,b',vs,ty,G,_,e,m⟩:=h.loc k cs B;rw [T] at G;cases G;have:=Vj (P:=P) (w:=w) (off:=0) S m Y (AC7 e) q
  grind
 |gp i o=>
  simp only [ldA,AF] at q;obtain ⟨cs,B,q⟩:=q;obtain ⟨b,T,ho⟩:=h.rel.shr i cs B;obtain ⟨vs,ty,e,_,_,m⟩:=ho.row;cases E with
  |gp hm=>
   rw [T] at hm;cases hm
   have:=Vj (P:=P) (w:=w) (off:=0) S m ho.ok (fun j u s=>AC7 e j u (by
    grind)) q
   grind
 |d x=>
  cases x<;>simp only [ldA] at q<;>try (cases q;done)
  rename_i r;cases E with
  |d E=>cases E with
   |@ptr _ b o2 f U Z=>
    have m:VRs g (r.map I.d) ((Aj r.length).map f):=by
     refine VRs.Qe _ _ (by simp) fun i c u K s=>?_;rw [Az,AO] at K s;obtain ⟨x,R,rfl⟩:=K;obtain ⟨j,Q,rfl⟩:=s
     have D:i=j:=by
      rw [Ev (by have:=(AG.1 R).1;omega)] at Q;simpa using Q
     subst D;exact .d (Z i x R)
    exact Vj (P:=P) (w:=w) (off:=o2) (o:=0) S m (Xd r) (fun j u s=>by
     rw [Az,AO] at s;obtain ⟨i,l,rfl⟩:=s
     have y:j < r.length:=by
      rcases Ff j r.length with z|z
      . exact z
      . simp [z] at l
     rw [Ev y] at l;cases l;exact h.rel.im _ _ _ (U j y)) q
 |ep r o=>
  cases E with
  |@ep _ _ b o2 f U Z=>
   have m:VRs g (r.map I.d) ((Aj r.length).map f):=by
    refine VRs.Qe _ _ (by simp) fun i c u K s=>?_;rw [Az,AO] at K s;obtain ⟨x,R,rfl⟩:=K;obtain ⟨j,Q,rfl⟩:=s
    have D:i=j:=by
     rw [Ev (by have:=(AG.1 R).1;omega)] at Q;simpa using Q
    subst D;exact .d (Z i x R)
   exact Vj (P:=P) (w:=w) (off:=o2) S m (Xd r) (fun j u s=>by
    rw [Az,AO] at s;obtain ⟨i,l,rfl⟩:=s
    have y:j < r.length:=by
     rcases Ff j r.length with z|z
     . exact z
     . simp [z] at l
    rw [Ev y] at l;cases l;exact h.rel.im _ _ _ (U j y)) q
 |_=>simp [ldA] at q
end
section
variable {P:Program} {base N:Nat} {g:Gh} {Pr:Nat->Prop} {A:X} {w0 w w':World} {lam:Nat->Option Nat} {F:Fm} {L:Lm} {a:Act}
def AMR {s f:Nat} (h:AMJ P s f=some off) {v:I} (e:SV g lam p pvl) (c:AHU p off=some v):
 ∃x,(Instr.fieldAt s pvl f).run P w= .ok x w/\SV g lam v x:=by
 unfold AMJ at h;cases u:P.underlying s with
 |none=>grind
 |some d=>
  rw [u] at h;cases d<;>try (cases h;done)
  rename_i fs;simp only [AF] at h;obtain ⟨fd,j,n,D,a⟩:=h;split at a
  . cases a
  . rename_i m;cases a
    have key:∀b o,(Instr.fieldAt s (.pointer (some ⟨b,o,none⟩)) f).run P w= .ok (.pointer (some ⟨b,o+fd.offset,none⟩)) w:=by
     intro b o;simp [Instr.fieldAt,B7 u,j,Instr.sureAddr,fieldPlace,Es D,m,Addr.add_lit]
    cases p with
    |lp k o=>obtain ⟨b,z,rfl⟩:=e;cases c;exact ⟨_,key b o,b,z,rfl⟩
    |gp i o=>cases c;cases e with|gp B=>exact ⟨_,key _ o,.gp B⟩
    |ep r o=>
     cases c;cases e with
     |@ep _ _ b t y l q=>
      refine ⟨_,key b (t+o),?_⟩;rw [Nat.add_assoc];exact VR.ep l q
    |d x=>
     cases x<;>simp only [AHU] at c<;>try (cases c;done)
     cases c;cases e with
     |d e=>cases e with
      |@ptr _ b t y l q=>exact ⟨_,key b t,VR.ep l q⟩
    |_=>simp [AHU] at c
def ANA {rows:List (List DV)} {m:Int} {size:Nat} {v:I} (c:ixR rows m size=some v) {sv:Value} (q:RD g.im (.sl rows) sv):
 ∃b off cap r,sv= .slice (some ⟨b,off,none⟩) rows.length cap/\0<=m/\m < rows.length/\rows[m.toNat]?=some r/\v= .ep r 0/\VR g v (.pointer (some ⟨b,off+m.toNat * size,none⟩)):=by
 unfold ixR at c;split at c
 . rename_i l;simp only [AF] at c;obtain ⟨r,d,c⟩:=c;split at c
   . rename_i p;cases c;have h:=(AG.1 d).1;cases q with
     |nil=>simp at d
     |@sl _ b off cap a f t w k n i=>
      have e:a=size:=by rw [<- p];exact (k r (AE d)).symm
      subst e;refine ⟨b,off,cap,r,rfl,l,by omega,d,rfl,?_⟩;exact VR.ep (o:=off+m.toNat * a) (off:=0) (f:=f m.toNat) (fun j u=>n _ _ h (by omega)) (fun j x s=>i _ _ _ _ d s)
   . cases c
 . cases c
def ARB {t e size:Nat} (l:UZ P t=some e) (h:szT P e=some size) {v:I} (j:SV g lam p pvl) (B:SV g lam q qvl)
 (a:ixA p q size=some v):∃x,(Instr.indexAt t pvl qvl).run P w= .ok x w/\SV g lam v x:=by
 have F:P.underlying t=some (.slice e):=by
  unfold UZ at l;split at l
  . rename_i Y N;cases l;exact N
  . cases l
 have key:∀(rows:List (List DV)) (k:IntKind) (m:Int),RD g.im (.sl rows) pvl->q= .d (.int k m)->ixR rows m size=some v->∃x,(Instr.indexAt t pvl qvl).run P w= .ok x w/\SV g lam v x:=by
  intro rows k m U D S;subst D;cases B with
  |d c=>
   cases c;obtain ⟨b,off,cap,r,rfl,K,L,T,rfl,G⟩:=ANA S U;exact ⟨_,by simp [Instr.indexAt,asIntOf,B7 F,Es h,K,L,Addr.add_lit],SV.FT G⟩
 unfold ixA at a;split at a
 . rename_i i n k m;split at a
   . rename_i f;cases a;cases j with
     |@ms _ _ _ _ b cap u E Q y=>
      cases B with
      |d c=>
       cases c;exact ⟨.pointer (some ⟨b,m.toNat * size,none⟩),by simp [Instr.indexAt,asIntOf,B7 F,Es h,f.1,f.2,Addr.add_lit],.gp u⟩
   . cases a
 . rename_i i o n s Z k m;split at a
   . rename_i f;obtain ⟨f,rfl⟩:=f;cases a;cases j with
     |@mv _ _ _ _ _ b oa cap u E Q y R=>
      cases B with
      |d c=>
       cases c;have z:=R (by omega);subst z;exact ⟨.pointer (some ⟨b,(o+m.toNat) * s,none⟩),by simp [Instr.indexAt,asIntOf,B7 F,Es h,f.1,f.2,Addr.add_lit,Cj],.gp u⟩
   . cases a
 . cases j with|d c=>grind
 . cases j with|own c _ _=>grind
 . cases j with|clip c=>grind
 . cases a
def RD.NM {rows:List (List DV)} (h:RD im (.sl rows) v):∃a cap,v= .slice a rows.length cap/\rows.length<=maxLen:=by
 cases h with
 |nil=>simp_all
 |sl b c _ _ _=>grind
def dN (h:n<=maxLen):IntKind.i64.has n:=by
 grind [maxLen,IntKind.has,IntKind.min,IntKind.max,IntKind.signed,IntKind.bits]
def ANF {t:TypeId} (j:P.underlying t=some (.slice e)) {v:I} (f:TypeId) (c:SV g lam p pvl) (b:Vh p=some v):
 ∃x,(Builtin.len_ #[t] f #[pvl]).run P w= .ok x w/\SV g lam v x:=by
 have key:∀rows:List (List DV),RD g.im (.sl rows) pvl->v= .d (.int .i64 rows.length)->∃x,(Builtin.len_ #[t] f #[pvl]).run P w= .ok x w/\SV g lam v x:=by
  intro rows k q;subst q;obtain ⟨a,cap,rfl,r⟩:=k.NM;exact ⟨_,by simp [Builtin.len_,B7 j,goInt],.d (.int (dN r))⟩
 cases p with
 |d x=>cases x with
  |sl rows=>simp only [Vh,AP] at b;cases c with|d h=>grind
  |_=>cases b
 |Ac=>cases b;cases c;exact ⟨_,by simp [Builtin.len_,B7 j,goInt],.d (.int (dN (D7 _)))⟩
 |own t' u z rows=>simp only [Vh,AP] at b;cases c with|own h _ _=>grind
 |clip rows=>simp only [Vh,AP] at b;cases c with|clip h=>grind
 |mv i o n s e=>simp only [Vh,AP] at b;subst b;cases c with|mv h k m l y=>exact ⟨_,by simp [Builtin.len_,B7 j,goInt],.d (.int (dN (show n<=maxLen by omega)))⟩
 |ms i n s e=>simp only [Vh,AP] at b;subst b;cases c with|ms h k m l=>exact ⟨_,by simp [Builtin.len_,B7 j,goInt],.d (.int (dN (Ai m l)))⟩
 |_=>cases b
def AI4 {t:TypeId} (i:P.underlying t=some .string) {v:I} (b:TypeId) (e:SV g lam p pvl) (a:zH p=some v):
 ∃x,(Builtin.len_ #[t] b #[pvl]).run P w= .ok x w/\SV g lam v x:=by
 cases p with
 |d x=>cases x with
  |str s=>
   simp only [zH,AP] at a;subst a;cases e with
   |d h=>cases h with
    |str c=>
     have f:(HL s.toArray).size=s.length:=by show s.toArray.size=s.length;simp
     exact ⟨_,by simp [Builtin.len_,B7 i,goInt,f],.d (.int (dN c))⟩
  |_=>cases a
 |_=>cases a
def AI1 {t:TypeId} (o:P.underlying t=some .string) {v:I} (l:SV g lam p pvl) (n:SV g lam q qvl) (a:tD p q=some v):
 ∃x,(Instr.index t pvl qvl).run P w= .ok x w/\SV g lam v x:=by
 unfold tD at a;split at a
 . rename_i s k m;split at a
   . rename_i f;simp only [AO] at a;obtain ⟨b,e,rfl⟩:=a;cases l with
     |d h=>cases h;cases n with
      |d h=>cases h;exact ⟨.int .u8 b.toNat,by
       have c:=(AG.1 e).1
       have:(HL s.toArray)[m.toNat]?=some b:=by
        have i:m.toNat < (HL s.toArray).size:=by simpa [ByteArray.size] using c
        rw [getElem?_pos (HL s.toArray) m.toNat i];have j:=(AG.1 e).2;show some (s.toArray[m.toNat]'_)=some b;simp [j]
       simp [Instr.index,asIntOf,B7 o,f,this],.d (.int (by
        have:=b.toNat_lt;unfold IntKind.has IntKind.min IntKind.max IntKind.signed IntKind.bits;simp;omega))⟩
   . cases a
 . cases a
def U2 (k:IntKind) (n:Int):k.has (k.wrap n):=by
 unfold IntKind.has IntKind.wrap IntKind.min IntKind.max;cases k<;>simp [IntKind.signed,IntKind.bits]<;>(try split)<;>omega
def AQ0 {k:IntKind} {a b:Int} (i:k.has a):k.has (a.tmod b):=by
 unfold IntKind.has IntKind.min IntKind.max at *
 have c:0<=a->0<=a.tmod b/\a.tmod b<=a:=fun h=>⟨Int.tmod_nonneg b h,by
  have:(a.tmod b).natAbs<=a.natAbs:=by rw [Int.natAbs_tmod];exact Nat.mod_le _ _
  grind⟩
 have d:a<=0->a<=a.tmod b/\a.tmod b<=0:=fun h=>by
  have e:(a.tmod b).natAbs<=a.natAbs:=by rw [Int.natAbs_tmod];exact Nat.mod_le _ _
  have f:a.tmod b=-((-a).tmod b):=by rw [Int.neg_tmod,Int.neg_neg]
  have g:=Int.tmod_nonneg b (show 0<=-a by omega);omega
 grind
theorem nC {op:BinOp} {t:TypeId} (y z:Operand) (k c:IntKind) (a b:Int):(eqGuard op t y z (.int k a) (.int c b)).run P w= .ok () w:=by
 unfold eqGuard;simp_all
theorem nD {op:BinOp} {t:TypeId} (y z:Operand) (a b:ByteArray):(eqGuard op t y z (.string a) (.string b)).run P w= .ok () w:=by
 unfold eqGuard;simp_all
def Uq {op:BinOp} {t:TypeId} (y z:Operand) (a b:Bool):(eqGuard op t y z (.bool a) (.bool b)).run P w= .ok () w:=by
 unfold eqGuard;simp_all
def AM5 {op:BinOp} {t:TypeId} {k:IntKind} {a b:Int} {v:I} (e:k.has a) (c:AM4 op k a b=some v):
 ∃x,(binOp op t (.int k a) (.int k b)).run P w= .ok x w/\VR g v x:=by
 cases op<;>simp only [AM4] at c<;>try (cases c;done)
 case add=>cases c;exact ⟨_,by simp [binOp,Op.intArith],.d (.int (U2 _ _))⟩
 case sub=>cases c;exact ⟨_,by simp [binOp,Op.intArith],.d (.int (U2 _ _))⟩
 case mul=>cases c;exact ⟨_,by simp [binOp,Op.intArith],.d (.int (U2 _ _))⟩
 case quo=>
  split at c
  . cases c
  . rename_i d;cases c;exact ⟨_,by simp [binOp,Op.intDiv,d],.d (.int (U2 _ _))⟩
 case rem=>
  split at c
  . cases c
  . rename_i d;cases c;exact ⟨_,by simp [binOp,Op.intDiv,d],.d (.int (AQ0 e))⟩
 all_goals (cases c;exact ⟨_,by simp [binOp,Op.intCmp],.d .bool⟩)
def z7 (s:List UInt8):(HL s.toArray).toList=s:=by
 rw [ByteArray.toList_eq]
def oX (s:List UInt8):(HL s.toArray).size=s.length:=by show s.toArray.size=s.length;simp
def zZ (s t:List UInt8):HL s.toArray++HL t.toArray=HL (s++t).toArray:=by
 apply ByteArray.ext;simp_all
def AOK {op:BinOp} {t:TypeId} {u:List UInt8} {v:I} (a:jX op s u=some v):
 ∃x,(binOp op t (.string ⟨s.toArray⟩) (.string ⟨u.toArray⟩)).run P w= .ok x w/\VR g v x:=by
 cases op<;>simp only [jX] at a<;>try (cases a;done)
 case add=>
  split at a
  . rename_i c;cases a;refine ⟨.string ⟨(s++u).toArray⟩,?_,.d (.str (by grind))⟩
    have b:(s.length:Int)+(u.length:Int)<=9223372036854775807:=by
     simp only [maxLen] at c;omega
    simp [binOp,Op.stringOp,oX,zZ,b]
  . cases a
 all_goals (cases a;exact ⟨_,by simp only [binOp,Op.stringOp,z7];rfl,.d .bool⟩)
def ALZ {op:BinOp} {t:TypeId} (y z:Operand) {v:I} (e:SV g lam p pvl) (f:SV g lam q qvl) (c:ALY op p q=some v):
 ∃x,((do eqGuard op t y z pvl qvl;binOp op t pvl qvl:Sem Value)).run P w= .ok x w/\SV g lam v x:=by
 unfold ALY at c;split at c
 . rename_i k a n b;split at c
   . rename_i j;subst j;cases e with|d e=>cases f with|d f=>cases e with|int h=>cases f with|int i=>
     obtain ⟨x,m,l⟩:=AM5 (P:=P) (w:=w) (g:=g) (t:=t) h c
     grind [Sem.run_bind,nC,Result.andThen_ok,SV.FT]
   . cases c
 . cases e with|d e=>cases f with|d f=>cases e with|str h=>cases f with|str i=>
   obtain ⟨x,m,l⟩:=AOK (P:=P) (w:=w) (g:=g) (t:=t) c
   grind [Sem.run_bind,nD,Result.andThen_ok,SV.FT]
 . cases c
def run_equalIn_bool (d:Nat) {t:TypeId} (c:P.underlying t=some .bool) (a b:Bool):(Op.equalIn (d+1) t (.bool a) (.bool b)).run P w= .ok (a==b) w:=by
 simp [Op.equalIn,B7 c]
def run_equal_bool {t:TypeId} (c:P.underlying t=some .bool) (a b:Bool):(Op.equal t (.bool a) (.bool b)).run P w= .ok (a==b) w:=
 run_equalIn_bool 9999 c a b
def AG4 {op:BinOp} {t:TypeId} (e:P.underlying t=some .bool) (y z:Operand) {v:I} (a:SV g lam p pvl) (b:SV g lam q qvl) (c:xG op p q=some v):
 ∃x,((do eqGuard op t y z pvl qvl;binOp op t pvl qvl:Sem Value)).run P w= .ok x w/\SV g lam v x:=by
 unfold xG at c;split at c
 . cases c;cases a with|d a=>cases b with|d b=>cases a;cases b;exact ⟨_,by simp only [Sem.run_bind,Uq,Result.andThen_ok];simp [binOp,run_equal_bool e],.d .bool⟩
 . cases c;cases a with|d a=>cases b with|d b=>cases a;cases b;exact ⟨_,by simp only [Sem.run_bind,Uq,Result.andThen_ok];simp [binOp,run_equal_bool e],.d .bool⟩
 . cases c
def ATN {op:UnOp} {v:I} (a:SV g lam p pvl) (b:unA op p=some v):∃x,(Op.unary op pvl).run P w= .ok x w/\SV g lam v x:=by
 unfold unA at b;split at b
 . cases b;cases a with|d a=>cases a;exact ⟨_,by simp [Op.unary],.d .bool⟩
 . cases b;cases a with|d a=>cases a;exact ⟨_,by simp [Op.unary,Op.intArith],.d (.int (U2 _ _))⟩
 . cases b
def AHJ {s t:TypeId} {k j:IntKind} (c:P.underlying s=some (.int j)) (e:P.underlying t=some (.int k)) {v:I} (b:SV g lam p pvl) (a:xR k p=some v):
 ∃x,(convert s t pvl).run P w= .ok x w/\SV g lam v x:=by
 unfold xR at a;split at a
 . cases a;cases b with|d b=>cases b;exact ⟨_,by simp [convert,B7 c,B7 e,Conv.intToInt],.d (.int (U2 _ _))⟩
 . cases a
def AMI {v:I} {i:Nat} (e:SV g lam p pvl) (a:AMH p i=some v):∃x,(Instr.extract pvl i).run P w= .ok x w/\VR g v x:=by
 unfold AMH at a;split at a
 . simp only [AF] at a;obtain ⟨v0,a,c⟩:=a;obtain ⟨rfl,_⟩:=sJ c;cases e with
   |@tup cs vs f h=>
    have d:=(AG.1 a).1;have b:vs[i]?=some (vs[i]'(by omega)):=by simp
    exact ⟨_,by simp [Instr.extract,b],h i _ _ a b⟩
 . cases a
def eH {b:Bool} {v:I} (ts:Array TypeId) (ty:TypeId) (c:SV g lam p pvl) (e:SV g lam q qvl) (a:mmA b p q=some v):
 ∃x,(if b then Builtin.max_ ts ty #[pvl,qvl] else Builtin.min_ ts ty #[pvl,qvl]).run P w= .ok x w/\SV g lam v x:=by
 unfold mmA at a;split at a
 . split at a
   . rename_i f;subst f;cases a;cases c with|d c=>cases e with|d e=>cases c with|int h=>cases e with|int i=>
     cases b
     . refine ⟨_,by simp [Builtin.min_,Builtin.min2],.d (.int ?_)⟩
       grind
     . refine ⟨_,by simp [Builtin.max_,Builtin.max2],.d (.int ?_)⟩
       grind
   . cases a
 . cases a
end
section
variable {P:Program} {base N:Nat} {g:Gh} {Pr:Nat->Prop} {A:X} {w0 w w':World} {lam:Nat->Option Nat} {F:Fm} {L:Lm} {a:Act}
def AQK {s f:Nat} {n:Option Nat} (k:AMJ P s f=some off) (q:AYZ P s f=some n) {v:I} 
 (L:SV g lam p pvl) (b:fdA p off n=some v):∃x,(Instr.field s pvl f).run P w= .ok x w/\VR g v x:=by
 unfold AMJ at k;unfold AYZ at q;cases l:P.underlying s with
 |none=>grind
 |some d=>
  rw [l] at k q;cases d<;>try (cases k;done)
  rename_i fs;simp only [AF] at k q;obtain ⟨fd,h,m,S,a⟩:=k;obtain ⟨E,e,j⟩:=q;rw [h] at e;cases e;split at a
  . cases a
  cases a;cases p<;>simp only [fdA] at b<;>try (cases b;done)
  rename_i cs;cases L with
  |@agg _ vs D r N=>
   have o:VRs g cs vs:=VRs.Qe _ _ D N;cases n with
   |none=>
    simp only [rdC,AF] at b;obtain ⟨v0,b,y⟩:=b;obtain ⟨rfl,_⟩:=aI y;obtain ⟨x,Q,B⟩:=o.at fd.offset _ b;exact ⟨x,by simp [Instr.field,B7 l,h,asAgg,part,s8 j,Q],B⟩
   |some n=>
    simp only [rdC] at b;split at b
    . rename_i K;cases b;obtain ⟨F,G⟩:=s9 (w:=w) j;have z:=(o.drop fd.offset).take n;refine ⟨.agg ((vs.drop fd.offset).take n).toArray,?_,.agg (by simp [D]) (fun c t=>r c (I7 (DA t))) (fun i c u r l=>z.idx i c u r l)⟩
      have R:vs.toArray.extract fd.offset (fd.offset+n)=((vs.drop fd.offset).take n).toArray:=by
       apply Array.ext';simp [List.drop_take]
      simp [Instr.field,B7 l,h,asAgg,part,F,Es G]
    . cases b
inductive SVo (g:Gh) (lam:Nat->Option Nat):Option I->Option Value->Prop
 |none:SVo g lam none none
 |some {x:I} {v:Value} (h:SV g lam x v):SVo g lam (some x) (some v)
def Ux {y:Option Operand} {x:Option Q09} (b:xoo y=some x) (h:Bu base g lam Pr N F L A a w0 w):SVo g lam (x.map (xv F)) (y.map a.eval):=by
 cases y with
 |none=>simp only [xoo,AP] at b;subst b;exact .none
 |some y=>
  simp only [xoo,AO] at b;obtain ⟨z,c,rfl⟩:=b;exact .some (Aq c h)
def Io {x:I} (h:Vm x=some n) (c:SV g lam x v):∃k,v= .int k n:=by
 unfold Vm at h;split at h
 . split at h
   . rename_i a;cases h;cases c with|d b=>cases b;exact ⟨_,by rw [Int.toNat_of_nonneg a]⟩
   . cases h
 . cases h
def Jv {y:Nat} {k:IntKind} (h:n<=y) (c:BoundsCode):(Instr.sliceBound (.int k n) y c).run P w= .ok n w:=by
 have a:(0:Int)<=(n:Int)/\(n:Int)<=(y:Int):=by omega
 simp [Instr.sliceBound,asIntOf,a]
def xH {l:Nat} (f:Bool) (e:SVo g lam lo lov) (i:SVo g lam hi hiv) (o:n<=cap) (c:fZ n lo hi=some (l,h)):
 (l<=h/\h<=n)/\(Instr.sliceBounds f n cap lov hiv none).run P w= .ok (l,h,cap) w/\(∀k,hiv.isSome=true->(Instr.sliceBounds f n cap lov hiv (some (.int k (h:Int)))).run P w= .ok (l,h,h) w):=by
 unfold fZ at c;simp only [AF] at c;obtain ⟨r,b,p,d,c⟩:=c;split at c
 case isFalse=>cases c
 rename_i a;cases c;refine ⟨a,?_⟩;unfold Instr.sliceBounds;cases i with
 |none=>
  simp only [AP] at d;subst d;cases e with
  |none=>simp_all
  |some j=>
   obtain ⟨k,rfl⟩:=Io b j;simp [Jv a.1]
 |some m=>
  obtain ⟨q,rfl⟩:=Io d m;cases e with
  |none=>simp only [AP] at b;subst b;simp [Jv (Ai a.2 o),Jv (AW h)]
  |some j=>
   obtain ⟨k,rfl⟩:=Io b j;simp [Jv a.1,Jv (Ai a.2 o),Jv (AW h)]
def uP (s:List UInt8) (l h:Nat):(HL s.toArray).extract l h=⟨((s.take h).drop l).toArray⟩:=by
 apply ByteArray.ext;simp [ByteArray.data_extract];rw [List.drop_take]
def AOH {t:TypeId} (k:P.underlying t=some .string) {v:I} (f:SV g lam p pvl) (e:SVo g lam lo lov) (c:SVo g lam hi hiv)
 (b:nG p lo hi=some v):∃x,(Instr.sliceAt t pvl lov hiv none).run P w= .ok x w/\VR g v x:=by
 unfold nG at b;split at b
 . rename_i s;simp only [AO] at b;obtain ⟨⟨l,h⟩,i,rfl⟩:=b;cases f with|d f=>cases f with|str m=>
   obtain ⟨j,a,_⟩:=xH (P:=P) (w:=w) (n:=s.length) (cap:=s.length) false e c (AW _) i;refine ⟨.string ⟨((s.take h).drop l).toArray⟩,?_,.d (.str (by simp;omega))⟩;simp [Instr.sliceAt,Instr.slice,B7 k,oX,a,uP]
 . cases b
def AWP (rows:List (List DV)) (l h:Nat) (a:h<=rows.length):((rows.take h).drop l).length=h - l:=by simp;omega
def RD.sub {rows:List (List DV)} {size l m:Nat} {ad:Option Addr} {len:Nat} (u:∀r∈rows,r.length=size) (o:RD im (.sl rows) (.slice ad len cap)) (y:l<=h) (t:h<=rows.length)
 (z:h<=m) (B:m<=cap):RD im (.sl ((rows.take h).drop l)) (.slice (if m=l then ad else ad.map (·.add (l * size))) (h - l) (m - l)):=by
 cases o with
 |nil g F=>
  have:h=0:=by simpa using t
  subst this;have:l=0:=by omega
  subst this;simp only [CD,List.drop_nil,Nat.sub_zero,To];refine .nil (by omega) (fun e=>?_);split at e
  . assumption
  simp_all
 |@sl _ b off _ a f D g p E G=>
  by_cases v:h=l
  . subst v;have e:(rows.take h).drop h=[]:=List.drop_eq_nil_of_le (by simp;omega);rw [e,Nat.sub_self];refine .nil (by omega) (fun e=>?_)
    grind
  . have k:m≠l:=by omega
    have c:=AWP rows l h t
    have q:a=size:=by
     have s:0 < rows.length:=by omega
     rw [<- p rows[0] (Fa s),u rows[0] (Fa s)]
    subst q;rw [if_neg k];simp only [Ap,Addr.add_lit];rw [<- c];refine .sl (size:=a) (f:=fun i j=>f (l+i) j) (by omega) (by omega) (fun r n=>u r (DA (I7 n))) (fun i j d w=>?_) (fun i r j x d w=>?_)
    . grind
    grind
def I.AIY {rows:List (List DV)} (b:SV g lam p v) (a:p.rows=some rows):RD g.im (.sl rows) v:=by
 cases p<;>simp only [I.rows] at a<;>try (cases a;done)
 . rename_i x;cases x<;>simp only [AP] at a<;>try (cases a;done)
   subst a;cases b with|d h=>exact h
 . cases a;cases b;exact .nil (D7 _) (fun _=>rfl)
 . cases a;cases b with|own h _ _=>exact h
 . cases a;cases b with|clip h=>exact h
def RD.uniform {rows:List (List DV)} (h:RD im (.sl rows) v):∃size,∀r∈rows,r.length=size:=by
 cases h with
 |nil=>simp_all
 |sl _ _ a _ _=>exact ⟨_,a⟩
def RD.Ab4 {rows:List (List DV)} {l m size:Nat} {ad:Option Addr} {len:Nat} (f:l=0\/∀r∈rows,r.length=size) (a:RD im (.sl rows) (.slice ad len cap)) (c:l<=h) (g:h<=rows.length)
 (d:h<=m) (e:m<=cap):RD im (.sl ((rows.take h).drop l)) (.slice (if m=l then ad else ad.map (·.add (l * size))) (h - l) (m - l)):=by
 rcases f with i|f
 . subst i;obtain ⟨b,j⟩:=a.uniform;have:=RD.sub (size:=b) j a c g d e
   grind
 . exact RD.sub f a c g d e
def AOF {t:TypeId} (K:P.underlying t=some (.slice e)) {sz:Nat} (m:szT P e=some sz) {mx:Option I} {mxv:Option Value} {v:I} (U:SV g lam p pvl)
 (u:SVo g lam lo lov) (q:SVo g lam hi hiv) (c:SVo g lam mx mxv) (a:AOE p lo hi mx sz=some v):
 ∃x,(Instr.sliceAt t pvl lov hiv mxv).run P w= .ok x w/\VR g v x:=by
 unfold AOE at a;split at a
 . rename_i h0;split at a
   . rename_i T;cases a;cases u;cases c;cases q with
     |some N=>
      obtain ⟨F,rfl⟩:=Io T N;cases U;refine ⟨.slice none 0 0,?_,.Ac⟩;have Z:(Instr.sliceBound (.int F 0) 0 .sliceAcap).run P w= .ok 0 w:=Jv (n:=0) (AW 0) _
      have f:(Instr.sliceBounds true 0 0 none (some (.int F 0)) none).run P w= .ok (0,0,0) w:=by
       simp [Instr.sliceBounds,Z]
      simp [Instr.sliceAt,Instr.slice,B7 K,f,Es m]
   . cases a
 . rename_i i n s e1 l;simp only [AF] at a;obtain ⟨B,h4,a⟩:=a;split at a
   case isFalse=>cases a
   rename_i d;obtain ⟨h5,rfl⟩:=d;cases a;cases q;cases c;cases u with
   |some N=>
    obtain ⟨F,rfl⟩:=Io h4 N;cases U with
    |@ms _ _ _ _ b cap G D T c=>
     have f:(Instr.sliceBounds true n cap (some (.int F B)) none none).run P w= .ok (B,n,cap) w:=by
      have L:=Jv (P:=P) (w:=w) (k:=F) h5 .sliceB;simp [Instr.sliceBounds,L]
     by_cases S:cap=B
     . refine ⟨.slice (some ⟨b,0,none⟩) (n - B) (cap - B),?_,.mv G D (by omega) c (fun h=>by omega)⟩;subst S;simp [Instr.sliceAt,Instr.slice,B7 K,f,Es m]
     . refine ⟨.slice (some ⟨b,B * s,none⟩) (n - B) (cap - B),?_,.mv G D (by omega) c (fun _=>rfl)⟩;simp [Instr.sliceAt,Instr.slice,B7 K,f,Es m,S,Addr.add_lit]
 . rename_i i n s e1 h;simp only [AF] at a;obtain ⟨Y,h3,a⟩:=a;split at a
   case isFalse=>cases a
   rename_i d;cases a;cases u;cases c;cases q with
   |some N=>
    obtain ⟨F,rfl⟩:=Io h3 N;cases U with
    |@ms _ _ _ _ b cap G D T c=>
     have f:(Instr.sliceBounds true n cap none (some (.int F Y)) none).run P w= .ok (0,Y,cap) w:=by
      simp [Instr.sliceBounds,Jv (Ai d T)]
     exact ⟨.slice (some ⟨b,0,none⟩) Y cap,by simp [Instr.sliceAt,Instr.slice,B7 K,f,Es m,Addr.add_lit],.ms G D (by omega) c⟩
 simp only [AF] at a;obtain ⟨rows,D,a⟩:=a;unfold Z3 at a;split at a
 case isFalse=>cases a
 rename_i z;simp only [AF] at a;obtain ⟨⟨l,h⟩,hb,a⟩:=a;have y:=I.AIY U D;obtain ⟨ad,cap,rfl,h8⟩:=y.NM
 have o:rows.length<=cap:=by
  cases y with
  |nil=>simp
  |sl S _ _ _ _=>exact S
 obtain ⟨j,R,E⟩:=xH (P:=P) (w:=w) (n:=rows.length) (cap:=cap) true u q o hb
 have Q:l=0\/∀r∈rows,r.length=sz:=by
  simp only [EH] at z;rcases z with L|L
  . left;cases u with
    |none=>
     unfold fZ at hb
     grind [AF,AP]
    |some _=>cases L
  . right;intro r D;simp only [Y4,Ao,beq_iff_eq] at L
    grind
 cases c with
 |none=>
  have a:some (I.d (.sl ((rows.take h).drop l)))=some v:=by cases hi<;>exact a
  cases a;exact ⟨_,by simp [Instr.sliceAt,Instr.slice,B7 K,R,Es m],.d (RD.Ab4 Q y j.1 j.2 (Ai j.2 o) (AW _))⟩
 |some h6=>
  cases q with
  |none=>cases a
  |some h7=>
   simp only at a;split at a
   . rename_i G;cases a;obtain ⟨k,rfl⟩:=Io G h6;have h2:=E k rfl;exact ⟨_,by simp [Instr.sliceAt,Instr.slice,B7 K,h2,Es m],.clip (RD.Ab4 Q y j.1 j.2 (AW _) (Ai j.2 o))⟩
   . cases a
def wW {t:TypeId} (a:P.underlying t=some (.pointer e)) (q:Option Addr):(Op.equal t (.pointer q) (.pointer none)).run P w= .ok q.isNone w:=by
 have:∀d,(Op.equalIn (d+1) t (.pointer q) (.pointer none)).run P w= .ok q.isNone w:=fun d=>by
  cases q<;>simp [Op.equalIn,B7 a]
 exact this 9999
def AIT {op:BinOp} {ne:Bool} {t:TypeId} (k:P.underlying t=some (.pointer e)) (f:op=if ne then .neq else .eql) (y z:Operand) {v:I} (a:SV g lam p pvl) (c:yZ ne p=some v):
 ∃x,((do eqGuard op t y z pvl (.pointer none);binOp op t pvl (.pointer none):Sem Value)).run P w= .ok x w/\SV g lam v x:=by
 have key:∀(q:Option Addr),pvl= .pointer q->((do eqGuard op t y z pvl (.pointer none);binOp op t pvl (.pointer none):Sem Value)).run P w= .ok (.bool (if ne then !q.isNone else q.isNone)) w:=by
  intro q j;subst j f;have h:=wW (P:=P) (w:=w) k q;have i:(eqGuard (if ne then .neq else .eql) t y z (.pointer q) (.pointer none)).run P w= .ok () w:=by cases ne<;>simp [eqGuard]
  simp only [Sem.run_bind,i,Result.andThen_ok];cases ne<;>simp [binOp,h]
 cases p<;>simp only [yZ] at c<;>try (cases c;done)
 . rename_i x;cases x<;>simp only [AP] at c<;>try (cases c;done)
   . subst c;cases a with|d a=>cases a;exact ⟨_,key _ rfl,by cases ne<;>exact .d .bool⟩
   . subst c;cases a with|d a=>cases a;exact ⟨_,key _ rfl,by cases ne<;>exact .d .bool⟩
 . cases c;obtain ⟨b,l,rfl⟩:=a;exact ⟨_,key _ rfl,by cases ne<;>exact .d .bool⟩
 . cases c;cases a;exact ⟨_,key _ rfl,by cases ne<;>exact .d .bool⟩
 . cases c;cases a;exact ⟨_,key _ rfl,by cases ne<;>exact .d .bool⟩
 . cases c;cases a;exact ⟨_,key _ rfl,by cases ne<;>exact .d .bool⟩
def Za (d:Nat):∀(fs:List Field) (o:Nat) (cs ds:List I) (h ys:List Value) (r:Bool),
 (fs.zipIdx o).all (fun (f,i)=>f.offset==i&&f.name != "_"&&AIA P f.type)=true->
 cs.length=fs.length->Oc cs ds=some r->VRs g cs (h.drop o)->VRs g ds (ys.drop o)->(Op.eqFields (d+1) h.toArray ys.toArray fs).run P w= .ok r w
 |[],o,cs,ds,h,ys,r,_,z,e,_,_=>by
  have:cs=[]:=Ay (by grind);subst this;cases ds with
  |nil=>simp only [Oc,AP] at e;subst e;simp [Op.eqFields]
  |cons _ _=>cases e
 |f::fs,o,cs,ds,h,ys,r,v,z,e,B,D=>by
  simp only [List.zipIdx_cons,BK,AM,beq_iff_eq,bne_iff_ne,ne_eq] at v;obtain ⟨⟨⟨R,Q⟩,hint⟩,j⟩:=v;cases cs with
  |nil=>simp at z
  |cons c cs=>
   cases ds with
   |nil=>cases c<;>simp [Oc] at e
   |cons c' ds=>
    have L:∃k a b,c= .d (.int k a)/\c'= .d (.int k b)/\∃r',Oc cs ds=some r'/\r=(a==b&&r'):=by
     cases c<;>try (simp [Oc] at e;done)
     rename_i x;cases x<;>try (simp [Oc] at e;done)
     rename_i k a;cases c'<;>try (simp [Oc] at e;done)
     rename_i y;cases y<;>try (simp [Oc] at e;done)
     rename_i t b;simp only [Oc] at e;split at e
     . rename_i N;subst N;simp only [AO] at e
       grind
     . cases e
    obtain ⟨k,a,b,rfl,rfl,r',u,rfl⟩:=L;generalize p:h.drop o=xd at B;generalize q:ys.drop o=yd at D;cases B with
    |@cons _ vx _ Y l T=>
     cases D with
     |@cons _ vy _ Z m U=>
      cases l with|d l=>cases m with|d m=>cases l with|int F=>cases m with|int K=>
      have ex:h.toArray[o]?=some (.int k a):=by
       have:(h.drop o)[0]?=some (.int k a):=by rw [p];rfl
       simpa using this
      have E:ys.toArray[o]?=some (.int k b):=by
       have:(ys.drop o)[0]?=some (.int k b):=by rw [q];rfl
       simpa using this
      have s:∃t,P.underlying f.type=some (.int t):=by
       unfold AIA at hint;cases S:P.underlying f.type with
       |none=>grind
       |some dd=>grind
      obtain ⟨t,s⟩:=s;have n:(isAgg f.type).run P w= .ok false w:=by simp [isAgg,B7 s]
      have ih:=Za d fs (o+1) cs ds h ys r' j (by grind) u (by rw [<- Fx,p];grind) (by rw [<- Fx,q];grind);simp only [Op.eqFields,Q,ne_eq,not_false_eq_true,if_true,part,Sem.run_bind,n,Result.andThen_ok,As,if_false,R,ex,E,Sem.run_pure,run_equalIn_int w d f.type k t a b s];cases G:(a==b)
      . simp
      grind
def AI8 {op:BinOp} {ne:Bool} {t:TypeId} {fs:Array Field} (hu:P.underlying t=some (.struct fs)) (his:Ui P t=true) (hop:op=if ne then .neq else .eql) (y z:Operand) {v:I} 
 (hp:SV g lam p pvl) (hq:SV g lam q qvl) (hv:AFT ne fs.size p q=some v):
 ∃x,((do eqGuard op t y z pvl qvl;binOp op t pvl qvl:Sem Value)).run P w= .ok x w/\SV g lam v x:=by
 unfold AFT at hv;split at hv
 case h_2=>cases hv
 rename_i l m;split at hv
 case isFalse=>cases hv
 rename_i hlen;simp only [AO] at hv;obtain ⟨r,hr,rfl⟩:=hv;unfold Ui at his;rw [hu] at his;simp only [AM,beq_iff_eq,Du] at his;obtain ⟨⟨⟨hall,hsz⟩,hst⟩,hgd⟩:=his;cases hp with
 |@agg _ xs hl hc hx=>
  cases hq with
  |@agg _ ys hl' hc' hy=>
   have hxs:VRs g l xs:=VRs.Qe _ _ hl hx;have hys:VRs g m ys:=VRs.Qe _ _ hl' hy;have hfo:P.fieldsOf t=fs:=by unfold Program.fieldsOf;rw [hu]
   have hrun:(Op.equalIn 10000 t (.agg xs.toArray) (.agg ys.toArray)).run P w= .ok r w:=by
    have h1:=run_equalIn_struct (P:=P) w 9999 t xs.toArray ys.toArray (by grind) hst;rw [h1,hfo];exact Za 9998 fs.toList 0 l m xs ys r hall (by grind) hr (by simpa using hxs) (by grind)
   have hg:(eqGuard op t y z (.agg xs.toArray) (.agg ys.toArray)).run P w= .ok () w:=run_eqGuard_agg w op t y z _ _ hgd;refine ⟨.bool (if ne then !r else r),?_,SV.FT (.d .bool)⟩;simp only [Sem.run_bind,hg,Result.andThen_ok];subst hop;have he:(Op.equal t (.agg xs.toArray) (.agg ys.toArray)).run P w= .ok r w:=hrun;cases ne<;>simp [binOp,he]
end
section
variable {P:Program} {base N:Nat} {g g':Gh} {Pr:Nat->Prop} {A H:X} {w0 w w':World} {lam:Nat->Option Nat} {F:Fm} {L:Lm} {a:Act}
def x8 (off:Nat):∀(vs:List Value) (k:Nat) (cells:Array Value),off+k+vs.length<=cells.size->
 (vs.zipIdx k).foldl (fun cs (x:Value×Nat)=>cs.setIfInBounds (off+x.2) x.1) cells=(cells.toList.take (off+k)++vs++cells.toList.drop (off+k+vs.length)).toArray
 |[],k,cells,h=>by simp
 |v::vs,k,cells,h=>by
  simp only [List.zipIdx_cons,BD];have a:off+k+(vs.length+1)<=cells.size:=by simpa using h
  rw [x8 off vs (k+1) _ (by simp;omega)];have:=list_seg_step cells.toList (off+k) v vs (by simpa using a);simp only [Array.toList_setIfInBounds,AT];rw [show off+(k+1)=off+k+1 by omega,this]
def AMK (off:Nat) (v:Value) (cells:Array Value) (h:off+v.cells.size<=cells.size):
 v.cells.zipIdx.foldl (fun cs (c,j)=>cs.setIfInBounds (off+j) c) cells=(cells.toList.take off++v.cells.toList++cells.toList.drop (off+v.cells.size)).toArray:=by
 have:=x8 off v.cells.toList 0 cells (by grind);simp only [CC,Z5] at this;rw [<- this,<- Array.foldl_toList];simp
theorem Gm {x y:List I}:BA (x++y)=(BA x&&BA y):=by simp [BA]
theorem P4 {x:List I} (n:Nat) (h:BA x=true):BA (x.take n)=true:=by
 grind [BA,Ao,DA]
theorem VW {x:List I} (n:Nat) (h:BA x=true):BA (x.drop n)=true:=by
 grind [BA,Ao,I7]
def VX {x:I} (h:BA x.cells=true):x.BS=true:=by cases x<;>first|rfl|(simp [I.cells,BA,I.Bo] at h)
def V2 (h:Bu base g lam Pr N F L A a w0 w) (P:Nat->Option (Nat×Nat)):∀(v:List (Nat×Operand)) (cps:List (Nat×Nat×Q09)) (z:List I) (d:Array Value) (cs:List I),
 Vp P v=some cps->VRs g z d.toList->BA z=true->LA z F cps=some cs->
 ∃cells,Instr.fill P d (v.map fun p=>(p.1,a.eval p.2))=some cells/\VRs g cs cells.toList/\BA cs=true
 |[],cps,z,d,cs,t,u,e,j=>by
  simp only [Vp,AP] at t;subst t;simp only [LA,AP] at j;subst j;exact ⟨d,rfl,u,e⟩
 |(i,y)::v,cps,z,d,cs,t,u,e,j=>by
  simp only [Vp,AX,AF] at t;obtain ⟨⟨off,n⟩,D,x,U,m,q,Q⟩:=t;cases Q;simp only [LA] at j;split at j
  . rename_i c;simp only [AM,beq_iff_eq,decide_eq_true_eq] at c;obtain ⟨⟨f,B⟩,R⟩:=c;have E:=(Aq U h).vr (VX f);have b:=E.cells f;have l:(a.eval y).cells.size=n:=by have:=b.length;simpa [B] using this
    have K:=u.length;have r:off+(a.eval y).cells.size<=d.size:=by simp at K;omega
    have G:VRs g (z.take off++(xv F x).cells++z.drop (off+n)) ((d.toList.take off++(a.eval y).cells.toList++d.toList.drop (off+(a.eval y).cells.size)).toArray).toList:=by
     simp only [l];exact ((u.take off).append b).append (u.drop (off+n))
    have s:BA (z.take off++(xv F x).cells++z.drop (off+n))=true:=by
     simp [Gm,P4 _ e,VW _ e,f]
    obtain ⟨cells,k,T,o⟩:=V2 h P v m _ _ cs q G s j;refine ⟨cells,?_,T,o⟩;have S:¬(off+n>d.size):=by omega
    simp only [AB,Instr.fill,D];rw [if_neg (by grind),AMK off (a.eval y) d r];exact k
  . cases j
def gZ:∀(l:List Value) (cs:List I),cvs l=some cs->∀g:Gh,VRs g cs l/\BA cs=true
 |[],cs,h,g=>by simp only [cvs,AP] at h;subst h;exact ⟨.nil,rfl⟩
 |v::l,cs,h,g=>by
  simp only [cvs,AX,AF] at h;obtain ⟨c,b,cs',a,f⟩:=h;cases f;obtain ⟨d,e⟩:=gZ l cs' a g;refine ⟨.cons (pX b g) d,?_⟩;simp only [BA,BK,AM];exact ⟨AJX b,e⟩
def LZ {t:TypeId} {z:List I} (h:W5 P t=some z):∃i a,P.info? t=some i/\i.zero=some a/\BA z=true/\∀g:Gh,VRs g z a.cells.toList:=by
 simp only [W5,AX,AF] at h;obtain ⟨i,c,a,d,b⟩:=h;exact ⟨i,a,c,d,(gZ _ _ b ⟨fun _ _=>none,fun _=>none,fun _=>none,fun _=>none⟩).2,fun g=>(gZ _ _ b g).1⟩
def AL0 {t:TypeId} {z:List I} {pl:Nat->Option (Nat×Nat)} {cps:List (Nat×Nat×Q09)} (u:W5 P t=some z) (b:places P t=some pl)
 (r:Vp pl ps.toList=some cps) (h:Bu base g lam Pr N F L A a w0 w) (o:LA z F cps=some cs):
 ∃x,(Instr.build t (ps.map fun (i,x)=>(i,a.eval x))).run P w= .ok x w/\VR g (.agg cs) x:=by
 obtain ⟨i,y,B,v,j,k⟩:=LZ u;obtain ⟨cells,f,l,c⟩:=V2 h pl ps.toList cps z y.cells cs r (k g) j o
 have m:P.built t (ps.map fun (i,x)=>(i,a.eval x)).toList=some cells:=by
  unfold Program.built places at *;have q:(ps.map fun (i,x)=>(i,a.eval x)).toList=ps.toList.map fun p=>(p.1,a.eval p.2):=by simp
  rw [q];cases s:P.underlying t with
  |none=>grind
  |some d=>
   rw [s] at b;cases d<;>try (cases b;done)
   case array n e=>
    simp only [AO] at b
    grind
   case struct fs=>
    simp only [AO] at b
    grind
 refine ⟨_,run_build w t _ cells m,?_⟩;have:cells=cells.toList.toArray:=by simp
 rw [this];simp only [BA,Ao] at c;exact .agg l.length c l.idx
def Bu.step (h:Bu base g lam Pr N F L A a w0 w) (i:g.le g') (j:∀k b,lam k=some b->w'.heap[b]?=w.heap[b]?)
 (d:Rel base g' (fun b=>Pr b\/∃k,lam k=some b) H w0 w'):Bu base g' lam Pr N F L H a w0 w':=by
 refine ⟨fun s=>(h.tm s).mono i,h.sz,h.df,fun k cs m=>?_,h.inj,h.npr,d⟩;obtain ⟨f,b,vs,ty,l,c,e,n⟩:=h.loc k cs m;exact ⟨f,b,vs,ty,l,c,by grind,n.mono i⟩
def Bu.Lv (h:Bu base g lam Pr N F L A a w0 w) {k:Nat} (c:lam k=some b):b < w.heap.size:=(h.rel.pr b (.inr ⟨k,c⟩)).1
def XS {o:Obj} (a:base<=w.heap.size):Below base w (w.alloc o):=(Below.refl base w).alloc a o
def Rel.alloc (h:Rel base g Pr A w0 w) (o:Obj):Rel base g Pr A w0 (w.alloc o):=
 h.grow (by simp) (fun b c _=>heap_alloc_old w o b c) (XS h.bs) (fun b a=>⟨by have:=(h.pr b a).1;simp;omega,.inl a⟩)
theorem HZ (size:Nat):∀(n:Nat) (l:List DV),(chunk size n l).length=n
 |0,_=>rfl
 |n+1,l=>by simp [chunk,HZ size n]
theorem Ye (size:Nat):∀(n:Nat) (l:List DV) (i:Nat),i < n->(chunk size n l)[i]?=some ((l.drop (i * size)).take size)
 |0,_,i,h=>by omega
 |n+1,l,0,_=>by simp [chunk]
 |n+1,l,i+1,h=>by
  simp only [chunk,Bz];rw [Ye size n (l.drop size) i (by omega),Fx,Cj,Nat.one_mul,Nat.add_comm]
def Yl:∀(cs:List I) (l:List DV),dvs cs=some l->∀vs,VRs g cs vs->l.length=cs.length/\∀(j:Nat) (x:DV),l[j]?=some x->∃v,vs[j]?=some v/\RD g.im x v
 |[],l,h,vs,k=>by simp only [dvs,AP] at h;grind
 |c::cs,l,h,vs,k=>by
  simp only [dvs,AX,AF] at h;obtain ⟨x,b,p,e,o⟩:=h;cases o;cases k with
  |@cons _ v _ i a f=>
   obtain ⟨n,q⟩:=Yl cs p e i f;refine ⟨by simp [n],fun j y m=>?_⟩;cases j with
   |zero=>
    simp at m;subst m;refine ⟨v,rfl,?_⟩
    cases c<;>simp only [I.dv,AP] at b<;>first
     |(cases b;done)
     |(subst b;cases a with|d h=>exact h)
     |(subst b;cases a;exact .nil (D7 _) (fun _=>rfl))
     |(subst b;cases a with|own h _ _=>exact h)
     |(subst b;cases a with|clip h=>exact h)
     |(subst b;cases a;exact .Dt)
   |succ j=>grind
def RD.fresh {size:Nat} {cells:List Value} (g:l.length=n * size) (h:n<=maxLen) (k:cells.length=n * size)
 (e:∀o v,cells[o]?=some v->im b o=some v) (p:∀(j:Nat) (x:DV),l[j]?=some x->∃v,cells[j]?=some v/\RD im x v):
 RD im (.sl (chunk size n l)) (.slice (some ⟨b,0,none⟩) n n):=by
 have a:RD im (.sl (chunk size n l)) (.slice (some ⟨b,0,none⟩) (chunk size n l).length n):=by
  refine .sl (size:=size) (f:=fun i j=>cells.getD (i * size+j) (.bool false)) (by rw [HZ];grind) h ?_ ?_ ?_
  . intro r d;obtain ⟨i,c,rfl⟩:=CJ d;rw [HZ] at c;have:=Ye size n l i c;rw [An (by grind)] at this;rw [RE this];rw [Bs,OU,g];have:i * size+size<=n * size:=by rw [<- Nat.succ_mul];exact CW _ c
    omega
  . intro i j c m;rw [HZ] at c;have:i * size+size<=n * size:=by rw [<- Nat.succ_mul];exact CW _ c
    grind
  . grind [AG,HZ,Ye]
 rwa [HZ] at a
def VRs.flatten {z:List I} {zc:List Value} (h:VRs g z zc):∀n:Nat,VRs g (AH n z).flatten (AH n zc).flatten
 |0=>by simpa using .nil
 |n+1=>by simp only [Bg,BO];exact h.append (VRs.flatten h n)
def K4 {z:List I} (h:BA z=true):∀n:Nat,BA (AH n z).flatten=true
 |0=>rfl
 |n+1=>by simp only [Bg,BO,Gm,h,K4 h n,XF]
def range_zero (z:Array Value) (size:Nat) (a:z.size=size) (d:0 < size):∀n:Nat,((XI (n * size)).map (z[· % z.size]!)).toList=(AH n z.toList).flatten
 |0=>by simp
 |n+1=>by
  have f:=range_zero z size a d n
  have c:(AH (n+1) z.toList).flatten=(AH n z.toList).flatten++z.toList:=by
   rw [List.replicate_succ',Js];simp
  rw [c,<- f];simp only [Array.toList_map,Array.toList_range,Cj,Nat.one_mul,List.range_add,A4,List.map_map];congr 1;apply List.ext_getElem
  . simp [a]
  . intro i b e;simp at b e;have:(n * size+i) % z.size=i:=by rw [a,Nat.add_comm,Nat.add_mul_mod_self_right];exact Nat.mod_eq_of_lt b
    grind
def GP {α:Type} (l:List α):∀n:Nat,(AH n l).flatten.length=n * l.length
 |0=>by simp
 |n+1=>by simp_all
def V1 (F:Fm):∀(cps:List (Nat×Nat×Q09)) (z cs:List I),LA z F cps=some cs->cs.length=z.length
 |[],z,cs,h=>by grind [LA,AP]
 |(off,n,x)::cps,z,cs,h=>by
  simp only [LA] at h;split at h
  . rename_i a;simp only [AM,beq_iff_eq,decide_eq_true_eq] at a;rw [V1 F cps _ cs h];simp;omega
  . cases h
def AL1 {t:TypeId} {len:Nat} {z:List I} {cps:List (Nat×Nat×Q09)} (he:UZ P t=some e) (hz:W5 P e=some z) (hn:szT P e=some n)
 (hzn:z.length=n/\0 < n/\len * n<=4096/\len<=4096) (hp:Vp (fun i=>some (i * n,n)) ps.toList=some cps) (h:Bu base g lam Pr N F L A a w0 w) 
 (hf:LA (AH len z).flatten F cps=some cs) (hd:dvs cs=some l):
 ∃x g' w',(Instr.buildSlice t len (ps.map fun (i,x)=>(i,a.eval x))).run P w= .ok x w'/\g.le g'/\KP Pr w w'/\VR g' (.d (.sl (chunk n len l))) x/\Bu base g' lam Pr N F L A a w0 w':=by
 obtain ⟨hzl,h0,hsmall,hlen⟩:=hzn;obtain ⟨i,zv,hi,hzv,hok,hvr⟩:=LZ hz
 have hu:P.underlying t=some (.slice e):=by
  unfold UZ at he;split at he
  . rename_i e' hh;cases he;exact hh
  . cases he
 have hzs:zv.cells.size=n:=by have:=(hvr g).length;simp at this;omega
 have hinit:VRs g (AH len z).flatten ((XI (len * n)).map (zv.cells[· % zv.cells.size]!)).toList:=by
  rw [range_zero zv.cells n hzs h0 len];exact (hvr g).flatten len
 obtain ⟨cells,hfill,hr,hck⟩:=V2 h _ ps.toList cps _ _ cs hp hinit (K4 hok len) hf
 have hcl:cells.size=len * n:=by
  have h1:=hr.length;have h2:=V1 F cps _ cs hf;have h3:=GP z len;simp at h1;grind
 have hrun:(Instr.buildSlice t len (ps.map fun (i,x)=>(i,a.eval x))).run P w= .ok (.slice (some ⟨w.heap.size,0,none⟩) len len) (w.alloc (.cells cells e)):=by
  have hm:(ps.map fun (i,x)=>(i,a.eval x)).toList=ps.toList.map fun p=>(p.1,a.eval p.2):=by simp
  have hno:¬(len * n>2 ^ 24):=Nat.not_lt.2 (Ai hsmall (by decide));unfold Instr.buildSlice;simp only [Sem.run_bind,B7 hu,Result.andThen_ok,Es hn,hm];rw [if_neg hno];by_cases h00:len * n=0
  . have hr0:XI 0=#[]:=rfl;rw [h00,hr0] at hfill;simp only [h00,if_true,pure_bind,hr0,Array.map_empty] at hfill ⊢
    grind [Sem.run_bind,newRow,run_newObj,Result.andThen_ok,Sem.run_pure,World.alloc_eq]
  . simp only [if_neg h00,Sem.run_bind,zeroValue,typeInfo,run_program,Result.andThen_ok,hi,Sem.run_pure,hzv,hfill,newRow,run_newObj,World.alloc_eq]
 have hrel:=h.rel.settle (n:=len * n) (vs:=cells) (b:=w.heap.size) (AW _) (h.rel.alloc (.cells cells e)) (fun o=>by simp);have hle:=h.rel.Yx w.heap.size (len * n) cells (AW _);refine ⟨_,g.settle w.heap.size (len * n) cells,_,hrun,hle,⟨by simp,fun b hp=>heap_alloc_old w _ b (h.rel.pr b (.inl hp)).1⟩,?_,h.step hle (fun k b hb=>heap_alloc_old w _ b (h.Lv hb)) hrel⟩;obtain ⟨hll,hrd⟩:=Yl cs l hd _ (hr.mono hle);have h1:=hr.length;refine .d (RD.fresh (cells:=cells.toList) (by grind) (by simp only [maxLen];omega) (by grind) (fun o v hv=>?_) hrd);have:o < len * n:=by have:=(AG.1 hv).1;simp at this;omega
 simp only [Gh.settle,if_true,if_pos this]
 grind
def AG5 {t:TypeId} (p:xo y=some x) (h:Bu base g lam Pr N F L A a w0 w) (r:dvs (xv F x).cells=some l):
 ∃z g' w',(Instr.box t (a.eval y)).run P w= .ok z w'/\g.le g'/\KP Pr w w'/\VR g' (.d (.ptr l)) z/\Bu base g' lam Pr N F L A a w0 w':=by
 have e:BA (xv F x).cells=true:=by
  have:∀(cs:List I) (l:List DV),dvs cs=some l->BA cs=true:=by
   intro cs
   induction cs with
   |nil=>intro l h;rfl
   |cons c cs E=>
    intro l h;simp only [dvs,AX,AF] at h;obtain ⟨x,p,G,q,_⟩:=h;simp only [BA,BK,AM];refine ⟨?_,E G q⟩;cases c<;>first|rfl|(simp [I.dv] at p)
  exact this _ _ r
 have s:=((Aq p h).vr (VX e)).cells e;have m:(Instr.box t (a.eval y)).run P w= .ok (.pointer (some ⟨w.heap.size,0,none⟩)) (w.alloc (.cells (a.eval y).cells t)):=by simp [Instr.box,newVar,newRow]
 have i:=h.rel.settle (n:=(a.eval y).cells.size) (vs:=(a.eval y).cells) (b:=w.heap.size) (AW _) (h.rel.alloc (.cells (a.eval y).cells t)) (fun o=>by simp);have d:=h.rel.Yx w.heap.size (a.eval y).cells.size (a.eval y).cells (AW _);refine ⟨_,g.settle w.heap.size (a.eval y).cells.size (a.eval y).cells,_,m,d,⟨by simp,fun b B=>heap_alloc_old w _ b (h.rel.pr b (.inl B)).1⟩,?_,h.step d (fun k b u=>heap_alloc_old w _ b (h.Lv u)) i⟩;obtain ⟨v,D⟩:=Yl _ l r _ (s.mono d);have K:=s.length;refine .d (.ptr (f:=fun j=>((a.eval y).cells.toList[j]?).getD DJ) (fun j Q=>?_) (fun j x p=>?_))
 . grind [Gh.settle]
 grind
def Uy (h:Bu base g lam Pr N F L A a w0 w):∀(l:List Operand) (c:List Q09),xos l=some c->((xvs F c).all I.BS=true)->VRs g (xvs F c) (l.map a.eval)
 |[],c,b,_=>by simp only [xos,AP] at b;subst b;exact .nil
 |y::l,c,b,d=>by
  simp only [xos,AX,AF] at b;obtain ⟨x,e,i,f,j⟩:=b;cases j;simp only [xvs,AB,BK,AM] at d;exact .cons ((Aq e h).vr d.1) (Uy h l i f d.2)
def AIQ {c x y v:I} {cvl xvl yvl:Value} (a:SV g lam c cvl) (f:SV g lam x xvl) (h:SV g lam y yvl) (e:AFE c x y=some v):
 ∃z,((do pure (.value (if <- asBool cvl then xvl else yvl)):Sem Next)).run P w= .ok (.value z) w/\SV g lam v z:=by
 cases c with
 |d c=>cases c with
  |bool b=>
   cases a with|d a=>
   cases a;cases e;cases b
   . exact ⟨yvl,by simp [asBool],by grind⟩
   . exact ⟨xvl,by simp [asBool],by grind⟩
  |_=>cases e
 |_=>cases e
def Mx {t:TypeId} (a:UZ P t=some e):P.underlying t=some (.slice e):=by
 grind [UZ]
end
section
variable {P:Program} {A:X} {F:Fm} {L:Lm}
def E2 {ρ:Operand->Value} {s:Sem Value} (h:execOp ρ o=(do pure (.value (<- s)):Sem Next)) {w w':World} {x:Value} (a:s.run P w= .ok x w'):
 (execOp ρ o).run P w= .ok (.value x) w':=by simp_all
def AG7 {dst:Option Tmp} {c:Call} {pos:String} {after:Array Edge} {guard:Option (Nat×Bool)} {co:Q06} {v:I} {sh:Bool} (e:c8 P sh c=some co) (n:pv F L A co=some v):
 VOp P ⟨dst,.call c,ty,pos,after,guard⟩ F L A v:=by
 obtain ⟨callee,args,argTypes⟩:=c;obtain ⟨args⟩:=args;obtain ⟨argTypes⟩:=argTypes;unfold c8 at e;cases callee with
 |invoke r m=>cases e
 |value f=>
  cases f<;>simp only at e
  . simp only [AO] at e;obtain ⟨T,_,rfl⟩:=e;simp [pv] at n
  . cases e
  . cases e
  . split at e
    . simp only [AO] at e;obtain ⟨T,_,rfl⟩:=e;simp [pv] at n
    . cases e
 |builtin b=>
  simp only at e;unfold APW at e;split at e
  . rename_i x t;cases E:P.underlying t with
    |none=>grind
    |some d=>
     rw [E] at e;cases d<;>try (cases e;done)
     . simp only [AO] at e;obtain ⟨U,l,rfl⟩:=e
       exact .same fun base g lam q N a s w h=>by
        obtain ⟨u,i,k⟩:=AI4 (P:=P) (w:=w) E ty (Aq l h) n;exact ⟨u,by simp [execOp,resolve,invoke,builtin,i],k⟩
     . simp only [AO] at e;obtain ⟨U,l,rfl⟩:=e
       exact .same fun base g lam q N a s w h=>by
        obtain ⟨u,i,k⟩:=ANF (P:=P) (w:=w) E ty (Aq l h) n;exact ⟨u,by simp [execOp,resolve,invoke,builtin,i],k⟩
  . simp only [AX,AF] at e;obtain ⟨x,l,R,j,p⟩:=e;cases p
    exact .same fun base g lam q N a s w h=>by
     obtain ⟨u,i,k⟩:=eH (P:=P) (w:=w) (b:=true) argTypes.toArray ty (Aq l h) (Aq j h) n;exact ⟨u,by simp only [if_true] at i;simp [execOp,resolve,invoke,builtin,i],k⟩
  . simp only [AX,AF] at e;obtain ⟨x,l,R,j,Y,Q,p⟩:=e;cases p;simp only [pv,AF] at n;obtain ⟨v1,G,K⟩:=n
    exact .same fun base g lam q N a s w h=>by
     have z:=Aq l h;have B:=Aq j h;have D:=Aq Q h;obtain ⟨u,i,k⟩:=eH (P:=P) (w:=w) (b:=true) argTypes.toArray ty z B G;obtain ⟨S,o,y⟩:=eH (P:=P) (w:=w) (b:=true) argTypes.toArray ty k D K;refine ⟨S,?_,y⟩;simp only [if_true,Builtin.max_] at i o;simp only [List.foldlM_cons,List.foldlM_nil,bind_pure] at i o;simp [execOp,resolve,invoke,builtin,Builtin.max_,i,o]
  . simp only [AX,AF] at e;obtain ⟨x,l,R,j,p⟩:=e;cases p
    exact .same fun base g lam q N a s w h=>by
     obtain ⟨u,i,k⟩:=eH (P:=P) (w:=w) (b:=false) argTypes.toArray ty (Aq l h) (Aq j h) n;exact ⟨u,by simp only [As,if_false] at i;simp [execOp,resolve,invoke,builtin,i],k⟩
  . simp only [AX,AF] at e
    grind [AF,pv]
  . cases e
def ASO {sh im:Bool} {v:I} (j:xP P sh im lc o.op=some c) (k:pv F L A c=some v):VOp P o F L A v:=by
 obtain ⟨dst,op,ty,pos,after,guard⟩:=o;cases op<;>simp only [xP] at j
 case move y=>
  simp only [AO] at j;obtain ⟨x,r,rfl⟩:=j;simp only [pv,AP] at k;subst k;exact .same fun base g lam D N a E w h=>⟨a.eval y,by simp [execOp],Aq r h⟩
 case assign y=>
  simp only [AO] at j;obtain ⟨x,r,rfl⟩:=j;simp only [pv,AP] at k;subst k;exact .same fun base g lam D N a E w h=>⟨a.eval y,by simp [execOp],Aq r h⟩
 case pick c y z=>
  simp only [AX,AF] at j;obtain ⟨xc,U,xy,Y,xz,h3,Q⟩:=j;cases Q;exact .same fun base g lam D N a E w h=>AIQ (Aq U h) (Aq Y h) (Aq h3 h) k
 case alloc t=>
  simp only [AO] at j;obtain ⟨z,q,rfl⟩:=j;simp [pv] at k
 case box t y=>
  simp only [AO] at j;obtain ⟨z,q,rfl⟩:=j;cases im
  . simp [pv] at k
  . simp only [if_true,pv,AO] at k;obtain ⟨l,hl,rfl⟩:=k;intro base g lam D N a E w h;obtain ⟨x,g',w',hr,U,Y,h3,h4⟩:=AG5 (P:=P) (t:=t) q h hl;exact ⟨x,g',w',E2 rfl hr,U,Y,SV.FT h3,h4⟩
 case field s y f=>
  simp only [AX,AF] at j;obtain ⟨x,r,off,ho,n,S,Q⟩:=j;cases Q
  exact .same fun base g lam D N a E w h=>by
   obtain ⟨z,q,m⟩:=AQK (P:=P) (w:=w) ho S (Aq r h) k;exact ⟨z,E2 rfl q,SV.FT m⟩
 case slice t y lo hi mx=>
  cases K:P.underlying t with
  |none=>grind
  |some d=>
   rw [K] at j;cases d<;>try (cases j;done)
   . cases mx with
     |some _=>cases j
     |none=>
      simp only [AX,AF] at j;obtain ⟨x,r,xl,h7,xh,h6,B⟩:=j;cases B
      exact .same fun base g lam D N a E w h=>by
       obtain ⟨z,q,m⟩:=AOH (P:=P) (w:=w) K (Aq r h) (Ux h7 h) (Ux h6 h) k;exact ⟨z,E2 rfl q,SV.FT m⟩
   . rename_i e;cases sh
     . simp only [As,if_false,AX,AF] at j;obtain ⟨x,r,xl,h7,xh,h6,xm,hj,sz,hd,B⟩:=j;cases B
       exact .same fun base g lam D N a E w h=>by
        obtain ⟨z,q,m⟩:=AOF (P:=P) (w:=w) K hd (Aq r h) (Ux h7 h) (Ux h6 h) (Ux hj h) k;exact ⟨z,E2 rfl q,SV.FT m⟩
     . simp only [if_true] at j;obtain ⟨rfl,z,rfl,rfl,x,xh,sz,_,_,_,rfl⟩:=zL j;simp [pv] at k
 case fieldAddr s y f=>
  simp only [AX,AF] at j;obtain ⟨x,r,off,ho,Q⟩:=j;cases Q
  exact .same fun base g lam D N a E w h=>by
   obtain ⟨z,q,m⟩:=AMR (P:=P) (w:=w) ho (Aq r h) k;exact ⟨z,E2 rfl q,m⟩
 case load t y=>
  simp only [AX,AF] at j;obtain ⟨x,r,n,S,Q⟩:=j
  have T:ldA L A (xv F x) n=some v:=by
   cases lc
   . cases Q;exact k
   . cases Q;have k:AA3 L (xv F x) n=some v:=k;cases hq:xv F x<;>rw [hq] at k<;>simp only [AA3] at k<;>try (cases k;done)
     exact k
  exact .same fun base g lam D N a E w h=>by
   obtain ⟨z,q,m⟩:=AEZ S h (Aq r h) T;exact ⟨z,E2 rfl q,SV.FT m⟩
 case store t y z=>
  grind [AX,AF,pv]
 case indexAddr t y i=>
  simp only [AX,AF] at j;obtain ⟨x,r,xi,G,e,Q,n,S,B⟩:=j;cases B
  exact .same fun base g lam D N a E w h=>by
   obtain ⟨z,q,m⟩:=ARB (P:=P) (w:=w) Q S (Aq r h) (Aq G h) k;exact ⟨z,E2 rfl q,m⟩
 case index t y i=>
  cases K:P.underlying t with
  |none=>grind
  |some d=>
   rw [K] at j;cases d<;>try (cases j;done)
   simp only [AX,AF] at j;obtain ⟨x,r,xi,G,B⟩:=j;cases B
   exact .same fun base g lam D N a E w h=>by
    obtain ⟨z,q,m⟩:=AI1 (P:=P) (w:=w) K (Aq r h) (Aq G h) k;exact ⟨z,E2 rfl q,m⟩
 case binOp op t y z t2=>
  cases K:P.underlying t with
  |none=>grind
  |some d=>
   rw [K] at j;cases d<;>try (cases j;done)
   case bool=>
    simp only [AX,AF] at j;obtain ⟨x,r,xi,G,B⟩:=j;cases B
    exact .same fun base g lam D N a E w h=>by
     obtain ⟨u,q,m⟩:=AG4 (P:=P) (w:=w) K y z (Aq r h) (Aq G h) k;exact ⟨u,E2 rfl q,m⟩
   case pointer e=>
    obtain ⟨rfl,ne,x,h5,r,rfl⟩:=sU j
    exact .same fun base g lam D N a E w h=>by
     obtain ⟨u,q,m⟩:=AIT (P:=P) (w:=w) (op:=op) K h5 y (.const (.pointer none)) (Aq r h) k;exact ⟨u,E2 rfl q,m⟩
   case struct fs=>
    have j:(if Ui P t then zJ op fs.size y z else none)=some c:=j;split at j
    . rename_i h9;obtain ⟨ne,x,xi,h5,r,G,rfl⟩:=tH j
      exact .same fun base g lam D N a E w h=>by
       obtain ⟨u,q,m⟩:=AI8 (P:=P) (w:=w) K h9 h5 y z (Aq r h) (Aq G h) k;exact ⟨u,E2 rfl q,m⟩
    . cases j
   all_goals
    simp only [AX,AF] at j;obtain ⟨x,r,xi,G,B⟩:=j;cases B
    exact .same fun base g lam D N a E w h=>by
     obtain ⟨u,q,m⟩:=ALZ (P:=P) (w:=w) (t:=t) y z (Aq r h) (Aq G h) k;exact ⟨u,E2 rfl q,m⟩
 case unOp op t y=>
  simp only [AX,AF] at j;obtain ⟨x,r,B⟩:=j;cases B
  exact .same fun base g lam D N a E w h=>by
   obtain ⟨u,q,m⟩:=ATN (P:=P) (w:=w) (Aq r h) k;exact ⟨u,E2 rfl q,m⟩
 case convert s t y=>
  cases K:P.underlying s with
  |none=>grind
  |some d=>
   rw [K] at j;cases d<;>try (cases j;done)
   cases h8:P.underlying t with
   |none=>grind
   |some d2=>
    rw [h8] at j;cases d2<;>try (cases j;done)
    simp only [AX,AF] at j;obtain ⟨x,r,B⟩:=j;cases B
    exact .same fun base g lam D N a E w h=>by
     obtain ⟨u,q,m⟩:=AHJ (P:=P) (w:=w) K h8 (Aq r h) k;exact ⟨u,E2 rfl q,m⟩
 case build t ps=>
  simp only [AX,AF] at j;obtain ⟨z,q,pl,ha,cps,R,B⟩:=j;cases B;simp only [pv,AO] at k;obtain ⟨cs,h0,rfl⟩:=k
  exact .same fun base g lam D N a E w h=>by
   obtain ⟨u,K,m⟩:=AL0 q ha R h h0;exact ⟨u,E2 rfl K,SV.FT m⟩
 case buildSlice t len ps=>
  simp only [AX,AF] at j;obtain ⟨e,Q,z,q,n,S,B⟩:=j;split at B
  . rename_i Z;simp only [AF] at B;obtain ⟨cps,R,B⟩:=B
    have T:pv F L A (.bsl n len (AH len z).flatten cps)=some v:=by
     cases sh
     . cases B;exact k
     . cases B;simp [pv] at k
    simp only [pv,AO,AF] at T;obtain ⟨l,⟨cs,h0,hl⟩,rfl⟩:=T;intro base g lam D N a E w h;obtain ⟨x,g',w',hr,U,Y,h3,h4⟩:=AL1 Q q S Z R h h0 hl;exact ⟨x,g',w',E2 rfl hr,U,Y,SV.FT h3,h4⟩
  . cases B
 case makeFunc fn first Ae=>
  cases fn<;>simp only [AX,AF] at j<;>try (cases j;done)
  rename_i f;obtain ⟨xf,hg,xc,hf,B⟩:=j;cases B;simp only [pv] at k;split at k
  . rename_i S;cases k;simp only [ZB,AM] at S
    exact .same fun base g lam D N a E w h=>by
     have U:=Uy h first.toList xf hg S.1;have Y:=Uy h Ae.toList xc hf S.2;refine ⟨.func (.func f) (first.map a.eval) (Ae.map a.eval),by simp [execOp,Instr.makeFunc],SV.FT ?_⟩;have e1:first.map a.eval=(first.toList.map a.eval).toArray:=Array.ext' (by simp);have e2:Ae.map a.eval=(Ae.toList.map a.eval).toArray:=Array.ext' (by simp);rw [e1,e2];exact .fn U.length Y.length U.idx Y.idx
  . cases k
 case extract y i=>
  simp only [AO] at j;obtain ⟨x,r,rfl⟩:=j
  exact .same fun base g lam D N a E w h=>by
   obtain ⟨u,q,m⟩:=AMI (P:=P) (w:=w) (Aq r h) k;exact ⟨u,E2 rfl q,SV.FT m⟩
 case nilCheck y=>
  simp only [AO] at j;obtain ⟨x,r,rfl⟩:=j;simp only [pv] at k
  exact .same fun base g lam D N a E w h=>by
   have m:=Aq r h
   have key:∀p:Addr,a.eval y= .pointer (some p)->(execOp a.eval ⟨dst,.nilCheck y,ty,pos,after,guard⟩).run P w= .ok (.value (.pointer (some p))) w:=by
    intro p hp;simp only [execOp,hp];rfl
   generalize a.eval y=vy at m key;cases hk:xv F x<;>rw [hk] at k m<;>simp only [AR3,AP] at k<;>try (cases k;done)
   . rename_i dx;cases dx<;>simp only [AP] at k<;>try (cases k;done)
     subst k;cases m with|d m=>cases m with|ptr hi hr=>exact ⟨_,key _ rfl,.d (.ptr hi hr)⟩
   . subst k;obtain ⟨b,hb,rfl⟩:=m;exact ⟨_,key _ rfl,b,hb,rfl⟩
   . subst k;cases m with|gp hm=>exact ⟨_,key _ rfl,.gp hm⟩
   . subst k;cases m with|ep hi hr=>exact ⟨_,key _ rfl,.ep hi hr⟩
 case makeSlice t l c=>
  simp only [AX,AF] at j
  grind [AF,pv]
 case call c=>exact AG7 j k
 all_goals (cases j;done)
end
section
variable {P:Program} {base N:Nat} {g g':Gh} {Pr:Nat->Prop} {A H:X} {w0 w w':World} {lam:Nat->Option Nat} {F:Fm} {L:Lm} {a:Act}
def AaX (k:Nat) (F:Fm):Prop:=∀s off,s≠k->F s≠.lp k off
def U:Fm:=fun _=>.undef
def I.Cp (k:Nat):I->Bool
 | .lp k' _=>k'==k
 |_=>false
def Dk (k:Nat) (F:Fm):Fm:=fun s=>if (F s).Cp k then .undef else F s
def AGS (k:Nat) (F:Fm):AaX k (Dk k F):=by
 intro s off _ a
 grind [Dk,I.Cp]
def AEH (a:Act) (d s:Nat) (v:Value) (b:d < a.tmps.size):(a.put (some d) v).tmps.getD s DJ=if s=d then v else a.tmps.getD s DJ:=by
 simp only [Act.put];by_cases e:s=d
 . simp_all
 . rw [if_neg e];simp [HK,Array.getElem?_setIfInBounds_ne (A5 e)]
theorem Bu.put (h:Bu base g lam Pr N F L A a w0 w) {d:Nat} (b:d < N) {v:I} {x:Value} (c:SV g lam v x):
 Bu base g lam Pr N (put d v F) L A (a.put (some d) x) w0 w:=by
 refine ⟨fun s=>?_,by simpa [Act.put] using h.sz,h.df,h.loc,h.inj,h.npr,h.rel⟩;rw [AEH a d s x (by rw [h.sz];exact b)];simp only [Ab.put];split
 . exact c
 . exact h.tm s
theorem Bu.BW (h:Bu base g lam Pr N F L A a w0 w) {d:Option Nat} (b:∀k,d=some k->k < N) {v:I} {x:Value} (c:SV g lam v x):
 Bu base g lam Pr N (BW d v F) L A (a.put d x) w0 w:=by
 cases d with
 |none=>exact h
 |some d=>exact h.put (b d rfl) c
def Bu.AR5 (h:Bu base g lam Pr N F L A a w0 w) {d:Nat} (hd:d < N) (hn:AaX d F) {vs:Array Value} (ty:TypeId) (hr:VRs g cs vs.toList) (hok:BA cs=true):
 Bu base g (fun k=>if k=d then some w.heap.size else lam k) Pr N (Ab.put d (.lp d 0) F) (CN d cs L) A (a.put (some d) (.pointer (some ⟨w.heap.size,0,none⟩))) w0 (w.alloc (.cells vs ty)):=by
 have hlt:∀k b,lam k=some b->b < w.heap.size:=fun k b hb=>h.Lv hb;refine ⟨fun s=>?_,by simpa [Act.put] using h.sz,h.df,fun k cs' hk=>?_,fun k k' b hk hk'=>?_,fun k b hk hp=>?_,?_⟩
 . rw [AEH a d s _ (by rw [h.sz];exact hd)];simp only [Ab.put];split
   . exact ⟨w.heap.size,by simp,rfl⟩
   . rename_i hs;have ht:=h.tm s;cases hF:F s<;>rw [hF] at ht<;>try exact ht
     rename_i k off;have hk:k≠d:=fun e=>hn s off hs (e ▸ hF);obtain ⟨b,hb,he⟩:=ht;exact ⟨b,by grind,he⟩
 . simp only [CN] at hk;split at hk
   . rename_i e;subst e;cases hk;exact ⟨hok,w.heap.size,vs,ty,by simp,h.rel.bs,heap_alloc_new w _,hr⟩
   . rename_i e;obtain ⟨hok',b,vs',ty',hb,hlow,hheap,hr'⟩:=h.loc k cs' hk;exact ⟨hok',b,vs',ty',by simp [e,hb],hlow,by grind [heap_alloc_old],hr'⟩
 . by_cases e:k=d<;>by_cases e':k'=d<;>simp only [e,e',if_true,if_false] at hk hk'
   . omega
   . grind
   . grind
   . exact h.inj k k' b hk hk'
 . by_cases e:k=d
   . simp only [e,if_true] at hk;cases hk;have:=(h.rel.pr _ (.inl hp)).1;omega
   . simp only [e,if_false] at hk;exact h.npr k b hk hp
 . refine h.rel.grow (by simp) (fun b hb _=>heap_alloc_old w _ b hb) (XS h.rel.bs) fun b hb=>?_;rcases hb with hp|⟨k,hk⟩
   . exact ⟨by have:=(h.rel.pr b (.inl hp)).1;simp;omega,.inl (.inl hp)⟩
   . by_cases e:k=d
     . simp_all
     . simp only [e,if_false] at hk;exact ⟨by have:=hlt k b hk;simp;omega,.inl (.inr ⟨k,hk⟩)⟩
def wr (cs:List I) (o:Nat) (new:List I):List I:=cs.take o++new++cs.drop (o+new.length)
def stA (L:Lm) (A:X) (new:List I):I->Option (Lm×X)
 | .lp k o=>(L k).bind fun cs=>if o+new.length<=cs.length then some (CN k (wr cs o new) L,A) else none
 | .gp i o=>(A.C i).bind fun cs=>if o+new.length<=cs.length then some (L,A.AI i (wr cs o new)) else none
 |_=>none
def AWQ {α:Type} (arr vs:List α) (o n:Nat) (h:o+vs.length<=n) (c:n<=arr.length):(arr.take o++vs++arr.drop (o+vs.length)).take n=(arr.take n).take o++vs++(arr.take n).drop (o+vs.length):=by
 have a:(arr.take o).length=o:=by simp;omega
 have b:((arr.take n).take o).length=o:=by simp;omega
 refine Dw fun i=>?_
 grind
def cJ {cs:Array Value} (a:base<=b):Below base w (w.setRow b cs):=
 ⟨rfl,rfl,rfl,by simp,fun k c=>setRow_other w b k cs (by omega)⟩
def Bu.store (h:Bu base g lam Pr N F L A a w0 w) {new:List I} (hp:SV g lam p pvl) (R:VRs g new vs) (G:BA new=true)
 {L':Lm} {H:X} (c:stA L A new p=some (L',H)):
 ∃ad w',pvl= .pointer (some ad)/\(storeCells ad vs).run P w= .ok () w'/\KP Pr w w'/\Bu base g lam Pr N F L' H a w0 w':=by
 have n:=R.AbV G;have u:=R.length;cases p with
 |lp k o=>
  obtain ⟨b,z,rfl⟩:=hp;simp only [stA,AF] at c;obtain ⟨cs,q,c⟩:=c;split at c
  . rename_i T;cases c;obtain ⟨h3,b',arr,ty,B,v,d,j⟩:=h.loc k cs q;rw [z] at B;cases B;have h4:=j.length;have f:=run_storeCells_at P b o ty vs 0 arr w d (by grind) n;simp only [CC] at f;refine ⟨_,_,rfl,f,⟨by simp,fun l y=>setRow_other w b l _ (fun e=>h.npr k b z (e ▸ y))⟩,?_⟩;refine ⟨h.tm,h.sz,h.df,fun k2 cs2 s=>?_,h.inj,h.npr,?_⟩
    . simp only [CN] at s;split at s
      . rename_i e;subst e;cases s;refine ⟨by grind [wr,Gm,P4,VW],b,_,ty,z,v,setRow_heap w b arr _ ty _ d,?_⟩;simp only [wr,u];exact ((j.take o).append R).append (j.drop _)
      . rename_i e;obtain ⟨K,l,h1,h0,m,x,r,U⟩:=h.loc k2 cs2 s;exact ⟨K,l,h1,h0,m,x,by rw [setRow_other w b l _ (fun e'=>e (h.inj k2 k b (e' ▸ m) z))];exact r,U⟩
    . exact h.rel.grow (by simp) (fun l _ hn=>setRow_other w b l _ (fun e=>hn (.inr ⟨k,e ▸ z⟩))) (cJ v)
       (fun l m=>⟨by have:=(h.rel.pr l m).1;simp_all,.inl m⟩)
  . cases c
 |gp i o=>
  simp only [stA,AF] at c;obtain ⟨cs,q,c⟩:=c;split at c
  . rename_i T;cases c;obtain ⟨b,hm,E⟩:=h.rel.shr i cs q;obtain ⟨arr,ty,d,h2,Y,j⟩:=E.row;cases hp with
    |gp D=>
     rw [hm] at D;cases D;have f:=run_storeCells_at P b o ty vs 0 arr w d (by omega) n;simp only [CC] at f;have Q:¬(Pr b\/∃k,lam k=some b):=E.pr;refine ⟨_,_,rfl,f,⟨by simp,fun l y=>setRow_other w b l _ (fun e=>Q (.inl (e ▸ y)))⟩,?_⟩;refine h.step (Gh.le_refl g) (fun k l S=>setRow_other w b l _ (fun e=>Q (.inr ⟨k,e ▸ S⟩))) ?_;have Z:(wr cs o new).length=cs.length:=by simp [wr];omega
     refine h.rel.write q hm (by simp) (fun k _ S=>setRow_other w b k _ S) (cJ E.low) (setRow_heap w b arr _ ty _ d) (by grind) (fun t ht=>⟨by grind,(Y t ht).2⟩) ?_ (by simp [wr,Gm,P4 _ E.ok,VW _ E.ok,G]);rw [Z];have e:=AWQ arr.toList vs o cs.length (by omega) (by grind);simp only [List.toList_toArray];rw [e];simp only [wr,u];exact ((j.take o).append R).append (j.drop _)
  . cases c
 |_=>simp [stA] at c
def MT (A:X) (e size:Nat):I->Option (List (List DV)×X)
 | .Ac=>some ([],A)
 | .own t e' s' rows=>if e'=e/\s'=size/\A.tok t=true then some (rows,A.Bh t) else none
 |_=>none
theorem qE {size:Nat}:∀(rows:List (List DV)),(∀r∈rows,r.length=size)->∀(i j:Nat) (r:List DV) (x:DV),rows[i]?=some r->r[j]?=some x->(rows.flatten)[i * size+j]?=some x
 |[],_,i,j,r,x,a,_=>by simp at a
 |c::rows,b,0,j,r,x,a,e=>by
  grind
 |c::rows,b,i+1,j,r,x,a,e=>by
  have d:c.length=size:=b c (by simp);simp only [BO];rw [BY (by rw [d,Nat.succ_mul];omega),d];have:(i+1) * size+j - size=i * size+j:=by rw [Nat.succ_mul];omega
  rw [this];exact qE rows (fun r f=>b r (by simp [f])) i j r x (by simpa using a) e
def GG {size:Nat}:∀(rows:List (List DV)),(∀r∈rows,r.length=size)->rows.flatten.length=rows.length * size
 |[],_=>by simp
 |c::rows,a=>by
  simp only [BO,A0,AT,Nat.succ_mul];rw [GG rows (fun r b=>a r (by simp [b])),a c (by simp)];omega
def RD.cellsOf {rows:List (List DV)} {size:Nat} (l:∀r∈rows,r.length=size) {len:Nat}
 (h:RD im (.sl rows) (.slice (some ⟨b,off,none⟩) len cap)) (g:0 < rows.length):∃vs:List Value,vs.length=rows.length * size/\len=rows.length/\
   (∀(j:Nat) (u:Value),vs[j]?=some u->im b (off+j)=some u)/\(∀(j:Nat) (x:DV),rows.flatten[j]?=some x->∃v,vs[j]?=some v/\RD im x v):=by
 cases h with
 |nil=>simp at g
 |@sl _ _ _ _ a f w z s y q=>
  have e:a=size:=by
   obtain ⟨r,q⟩:∃r,r∈rows:=by cases rows with|nil=>simp at g|cons r _=>simp_all
   grind
  subst e;by_cases n:a=0
  . subst n;refine ⟨[],by simp,rfl,by simp,fun j x m=>?_⟩;have:=GG rows l
    grind
  have c:0 < a:=Nat.pos_of_ne_zero n;refine ⟨(Aj (rows.length * a)).map fun j=>f (j / a) (j % a),by simp,rfl,fun j u i=>?_,fun j x m=>?_⟩
  . rw [Az,AO] at i;obtain ⟨j',p,rfl⟩:=i
    grind [Ff,Ev,Nat.div_lt_iff_lt_mul,Nat.mod_lt,Nat.add_assoc,Nat.mul_comm,Nat.div_add_mod]
  . have d:j < rows.length * a:=by rw [<- GG rows l];exact (AG.1 m).1
    refine ⟨f (j / a) (j % a),by grind,?_⟩;have o:j / a < rows.length:=(Nat.div_lt_iff_lt_mul c).2 d;have t:j % a < a:=Nat.mod_lt _ c;have k:rows[j / a]?=some rows[j / a]:=by simp [o]
    grind [Fa,qE,Nat.mul_comm,Nat.div_add_mod]
def RD.AIP {rows:List (List DV)} {size:Nat} {ys:List Value} (d:∀r∈rows,r.length=size) (e:rows.length<=cap) (h:cap<=maxLen)
 (m:ys.length=rows.length * size) (g:∀(j:Nat) (u:Value),ys[j]?=some u->im b (off+j)=some u)
 (k:∀(j:Nat) (x:DV),rows.flatten[j]?=some x->∃v,ys[j]?=some v/\RD im x v):RD im (.sl rows) (.slice (some ⟨b,off,none⟩) rows.length cap):=by
 refine .sl (size:=size) (f:=fun i j=>ys.getD (i * size+j) (.bool false)) e h d (fun i j a c=>?_) (fun i r j x a c=>?_)
 . have:i * size+size<=rows.length * size:=by rw [<- Nat.succ_mul];exact CW _ a
   grind
 . obtain ⟨v,n,l⟩:=k _ _ (qE rows d i j r x a c)
   grind
def AK2 {e size:Nat} (h:w.ownsRow base e size v n xs) {rows:List (List DV)} (c:RD im (.sl rows) v):n=rows.length:=by
 obtain ⟨d,cap,rfl,_⟩:=c.NM;rcases h.2 with ⟨b,rfl⟩|⟨f,a,cur,b,_⟩
 . grind
 grind
def ALV {t:TypeId} (ht:P.underlying t=some (.slice e)) (hi:P.info? e=some i) (hz:i.zero=some z) (he:z.cells.size=i.size)
 (h:Bu base g lam Pr N F L A a w0 w) (hp:SV g lam p pvl) (hq:SV g lam q qvl) {rows:List (List DV)} 
 (s:MT A e i.size p=some (rows,σ1)) (f:q.rows=some srows) (al:∀r∈srows,r.length=i.size)
 (sc:rows.length+srows.length<=maxLen) (ds:(rows.length+srows.length) * i.bytes<=140737488355328):
 ∃x g' w' t',(Builtin.append_ #[t,t] ty #[pvl,qvl]).run P w= .ok x w'/\g.le g'/\KP Pr w w'/\A.tok t'=false/\VR g' (.own t' e i.size (rows++srows)) x/\
  Bu base g' lam Pr N F L (σ1.BV t') a w0 w':=by
 obtain ⟨t',_,Y,_,nm⟩:=h.rel.fresh
 -- the owner
 have c:∃o,uN base g (fun b=>Pr b\/∃k,lam k=some b) σ1 w e i.size pvl rows.length o/\σ1.le A/\(∀r∈rows,r.length=i.size)/\
  (∀(j:Nat) (x:DV),rows.flatten[j]?=some x->∃v,o[j]?=some v/\RD g.im x v):=by
  unfold MT at s;split at s
  . cases s;cases hp;exact ⟨[],uN.nil _ _ _ _ _ _ _,X.le_refl _,by simp,by simp⟩
  . split at s
    . rename_i h5;obtain ⟨rfl,rfl,htk⟩:=h5;cases s;cases hp with
      |own l ha R=>
       obtain ⟨n,o,hm⟩:=h.rel.AZE htk ha (by cases l<;>rfl);have hn:=AK2 hm.1 l;subst hn;refine ⟨o,hm,X.Yk _ _,R,fun j x Z=>?_⟩;have y:0 < rows.length:=by cases rows with|nil=>simp at Z|cons=>simp
       rcases hm.1.2 with ⟨_,h0⟩|⟨gg,cap,cur,rfl,fs,us,_⟩
       . omega
       obtain ⟨vs,hvl,_,hvi,hvr⟩:=RD.cellsOf R l y;obtain ⟨v,hv,hy⟩:=hvr j x Z;refine ⟨v,?_,hy⟩;have cs:j < o.length:=by rw [hm.1.1,<- hvl];exact (AG.1 hv).1
       have S:=h.rel.im _ _ _ (hvi j v hv);have h2:=hm.1.cells (g:=gg) rfl j o[j] (by simp [cs]);rw [Addr.add_lit,Av] at h2
       grind
    . cases s
  . cases s
 obtain ⟨o,c,hl,R,hxs⟩:=c
 -- the source
 have ns:∃(m:Nat) (news:List Value) (B:Value) (w':World),(Builtin.append_ #[t,t] ty #[pvl,qvl]).run P w= .ok B w'/\m=srows.length/\news.length=m * i.size/\
  w'.ownsRow base e i.size B (rows.length+m) (o++news)/\w.grownBy w' B.ownBlock/\(∀k,B.ownBlock=some k->pvl.ownBlock=some k\/w.heap.size<=k)/\
  (∀(j:Nat) (x:DV),srows.flatten[j]?=some x->∃v,news[j]?=some v/\RD g.im x v):=by
  have E:RD g.im (.sl srows) qvl:=by
   cases q with
   |d x=>cases x<;>simp only [I.rows,AP] at f<;>try (cases f;done)
         subst f;cases hq with|d h=>exact h
   |Ac=>simp only [I.rows,AP] at f;subst f;cases hq;exact .nil (D7 _) (fun _=>rfl)
   |own _ _ _ _=>simp only [I.rows,AP] at f;subst f;cases hq with|own h _ _=>exact h
   |clip _=>simp only [I.rows,AP] at f;subst f;cases hq with|clip h=>exact h
   |_=>cases f
  by_cases h0:srows.length=0
  . have ho:srows=[]:=Ay h0;subst ho;cases E with
    |@nil ad cap hg hf=>
     cases ad with
     |none=>
      have:=hf rfl;subst this;refine ⟨0,[],pvl,w,run_append_owned_none w base t ty e i i.size ht hi pvl rows.length o c.1,rfl,by simp,by simpa using c.1,⟨rfl,rfl,rfl,AW _,fun _ _ _=>rfl⟩,fun k hk=>.inl hk,by simp⟩
     |some ad=>
      obtain ⟨B,w',S,h2,h3,h4⟩:=Eg (P:=P) w base t ty e i z i.size i.bytes ht hi hz rfl rfl he pvl rows.length o c.1 ad 0 cap [] (by simp) (by simp) (by simp) (by grind) (by grind) h.rel.bs
      grind
    |sl hc hm hs hi hr=>
     obtain ⟨B,w',S,h2,h3,h4⟩:=Eg (P:=P) w base t ty e i z i.size i.bytes ht ‹_› hz rfl rfl he pvl rows.length o c.1 _ 0 _ [] (by simp) (by simp) (by simp) (by grind) (by grind) h.rel.bs;exact ⟨0,[],B,w',S,rfl,by simp,h2,h3,h4,by simp⟩
  . obtain ⟨ad,cap,rfl,_⟩:=E.NM;have y:0 < srows.length:=Nat.pos_of_ne_zero h0
    obtain ⟨b,off,rfl⟩:∃b off,ad=some ⟨b,off,none⟩:=by
     generalize hvv:(Value.slice ad srows.length cap)=vv at E;cases E with
     |nil=>simp at y
     |sl=>grind
    obtain ⟨news,h6,_,hni,h7⟩:=RD.cellsOf al E y
    have h8:∀u∈news,u.oneCell'=true:=by
     intro u hu;obtain ⟨j,hj,rfl⟩:=CJ hu;have hjf:j < srows.flatten.length:=by rw [GG srows al,<- h6];exact hj
     obtain ⟨v,hv,l⟩:=h7 j srows.flatten[j] (by simp);have:v=news[j]:=by rw [An hj] at hv;cases hv;rfl
     rw [<- this];exact l.one
    obtain ⟨B,w',S,h2,h3,h4⟩:=Eg (P:=P) w base t ty e i z i.size i.bytes ht hi hz rfl rfl he pvl rows.length o c.1 ⟨b,off,none⟩ srows.length cap news h6
     (fun j u hu=>by rw [Addr.add_lit];exact h.rel.im _ _ _ (hni j u hu)) h8 sc ds h.rel.bs
    grind
 obtain ⟨m,news,B,w',ks,rfl,h6,D,K,hd,h7⟩:=ns;have G:=h.rel.less hl;have Q:=G.nP (news:=news) (e:=e) (size:=i.size) (t':=t') c hd Y;have h9:=G.AY1 (t':=t') c D K hd Y
 have U:∀b,B.ownBlock=some b->¬(Pr b\/∃k,lam k=some b):=fun b hb=>by
  rcases hd b hb with hvb|hge
  . exact (c.2 b hvb).2.1
  . intro hp;have:=(h.rel.pr b hp).1;omega
 refine ⟨B,g.grow B e i.size t' (o++news),w',t',ks,Q,⟨K.size,fun b hb=>K.block b (h.rel.pr b (.inl hb)).1 (fun e'=>U b e'.symm (.inl hb))⟩,nm,?_,
  h.step Q (fun k b hb=>K.block b (h.Lv hb) (fun e'=>U b e'.symm (.inr ⟨k,hb⟩))) h9⟩
 have T:∀r∈rows++srows,r.length=i.size:=fun r hr=>by
  grind
 refine .own ?_ (by simp [Gh.grow]) T;have hxl:o.length=rows.length * i.size:=c.1.1;rcases D.2 with ⟨rfl,h0⟩|⟨gg,cap,cur,rfl,fs,us,hnc,hg,_⟩
 . have:rows++srows=[]:=Ay (by grind);rw [this];exact .nil (D7 _) (fun _=>rfl)
 . have:=RD.AIP (im:=(g.grow (.slice (some ⟨gg,0,none⟩) (rows.length+srows.length) cap) e i.size t' (o++news)).im) (rows:=rows++srows) (size:=i.size) (b:=gg) (off:=0) (cap:=cap) (ys:=o++news)
    T (by grind) hg (by grind) (fun j u hu=>by simp only [Gh.grow,Value.ownBlock,if_true,Av];exact hu) (fun j x Z=>by
     rw [Js] at Z;have hfl:=GG rows R;rcases Ff j rows.flatten.length with S|S
     . rw [Di S] at Z;obtain ⟨v,hv,l⟩:=hxs j x Z;exact ⟨v,by grind,l.mono Q.im⟩
     . rw [BY S] at Z;obtain ⟨v,hv,l⟩:=h7 _ x Z;refine ⟨v,?_,l.mono Q.im⟩
       grind)
   grind
end
section
variable {P:Program} {base N:Nat} {g g':Gh} {Pr:Nat->Prop} {A H:X} {w0 w w':World} {lam:Nat->Option Nat} {F:Fm} {L:Lm} {a:Act}
def AUH {t:TypeId} (S:P.underlying t=some (.slice e)) (Q:P.info? e=some i) (hz:i.zero=some z) (y:z.cells.size=i.size)
 (h:Bu base g lam Pr N F L A a w0 w) (R:SV g lam q qvl) (f:w.ownsRow base e i.size pvl n xs)
 (c:q.rows=some srows) (K:∀r∈srows,r.length=i.size) (h5:n+srows.length<=maxLen) (h6:(n+srows.length) * i.bytes<=140737488355328):
 ∃(m:Nat) (news:List Value) (p:Value) (w':World),(Builtin.append_ #[t,t] ty #[pvl,qvl]).run P w= .ok p w'/\m=srows.length/\news.length=m * i.size/\
  w'.ownsRow base e i.size p (n+m) (xs++news)/\w.grownBy w' p.ownBlock/\(∀k,p.ownBlock=some k->pvl.ownBlock=some k\/w.heap.size<=k)/\
  (∀(j:Nat) (x:DV),srows.flatten[j]?=some x->∃v,news[j]?=some v/\RD g.im x v):=by
 have l:RD g.im (.sl srows) qvl:=by
  cases q with
  |d x=>cases x<;>simp only [I.rows,AP] at c<;>try (cases c;done)
        subst c;cases R with|d h=>exact h
  |Ac=>simp only [I.rows,AP] at c;subst c;cases R;exact .nil (D7 _) (fun _=>rfl)
  |own _ _ _ _=>simp only [I.rows,AP] at c;subst c;cases R with|own h _ _=>exact h
  |clip _=>simp only [I.rows,AP] at c;subst c;cases R with|clip h=>exact h
  |_=>cases c
 by_cases h0:srows.length=0
 . have E:srows=[]:=Ay h0;subst E;cases l with
   |@nil B cap hb D=>
    cases B with
    |none=>
     have:=D rfl;subst this;refine ⟨0,[],pvl,w,run_append_owned_none w base t ty e i i.size S Q pvl n xs f,rfl,by simp,by grind,⟨rfl,rfl,rfl,AW _,fun _ _ _=>rfl⟩,fun k hk=>.inl hk,by simp⟩
    |some B=>
     obtain ⟨p,w',T,U,Y,Z⟩:=Eg (P:=P) w base t ty e i z i.size i.bytes S Q hz rfl rfl y pvl n xs f B 0 cap [] (by simp) (by simp) (by simp) (by grind) (by grind) h.rel.bs
     grind
   |sl hc hm hs Q hr=>
    obtain ⟨p,w',T,U,Y,Z⟩:=Eg (P:=P) w base t ty e i z i.size i.bytes S ‹_› hz rfl rfl y pvl n xs f _ 0 _ [] (by simp) (by simp) (by simp) (by grind) (by grind) h.rel.bs;exact ⟨0,[],p,w',T,rfl,by simp,U,Y,Z,by simp⟩
 . obtain ⟨B,cap,rfl,_⟩:=l.NM;have o:0 < srows.length:=Nat.pos_of_ne_zero h0
   obtain ⟨b,off,rfl⟩:∃b off,B=some ⟨b,off,none⟩:=by
    generalize hd:(Value.slice B srows.length cap)=vv at l;cases l with
    |nil=>simp at o
    |sl=>grind
   obtain ⟨news,G,_,h7,h8⟩:=RD.cellsOf K l o
   have s:∀u∈news,u.oneCell'=true:=by
    intro u hu;obtain ⟨j,hj,rfl⟩:=CJ hu;have ha:j < srows.flatten.length:=by rw [GG srows K,<- G];exact hj
    obtain ⟨v,hv,h9⟩:=h8 j srows.flatten[j] (by simp);have:v=news[j]:=by rw [An hj] at hv;cases hv;rfl
    rw [<- this];exact h9.one
   obtain ⟨p,w',T,U,Y,Z⟩:=Eg (P:=P) w base t ty e i z i.size i.bytes S Q hz rfl rfl y pvl n xs f ⟨b,off,none⟩ srows.length cap news G
    (fun j u hu=>by rw [Addr.add_lit];exact h.rel.im _ _ _ (h7 j u hu)) s h5 h6 h.rel.bs
   grind
def Rel.AY4 (h:Rel base g Pr A w0 w) {i:Nat} (y:A.C i=some cs) (D:g.mu i=some b):Rel base g (fun x=>Pr x\/x=b) (A.CM i) w0 w:=by
 obtain ⟨T,o,Q⟩:=h.shr i cs y;rw [D] at o;cases o;have B:=h.bS y D
 have s:∀j,(A.CM i).C j≠none->j≠i/\A.C j≠none:=fun j d=>by
  grind [X.CM]
 have u:A.C i≠none:=by rw [y];simp
 refine ⟨h.im,fun j cs' d=>?_,fun j k l d P=>h.inj j k l (s j d).2 (s k P).2,fun t R=>?_,fun x r=>?_,h.bel,h.bs,h.fin,h.st⟩
 . have p:=(s j (by grind)).1;have z:A.C j=some cs':=by simpa [X.CM,p] using d
   obtain ⟨l,m,a⟩:=h.shr j cs' z;refine ⟨l,m,a.ok,a.row,a.low,a.im,fun f=>?_⟩;rcases f with f|f
   . exact a.pr f
   . exact p (h.inj j i b (by grind) u (f ▸ m) D)
 . have F:A.tok t=true:=R;obtain ⟨v,e,size,n,S,E,q,c⟩:=(h.tok t F).row;refine ⟨v,e,size,n,S,E,q,fun l G=>?_⟩;obtain ⟨K,U,L,N⟩:=c l G;refine ⟨K,fun f=>?_,fun j d=>L j (s j d).2,N⟩
   grind
 . rcases r with r|r
   . exact h.pr x r
   . subst r;exact ⟨B,Q.im⟩
def M6 (A:X) (e size:Nat):I->Option (Nat×List I×X)
 | .Ac=>some (0,[],A)
 | .ms i n s e'=>if s=size/\e'=e then (A.C i).bind fun cs=>if cs.length=n * size then some (n,cs,A.CM i) else none else none
 |_=>none
def BL (srows:List (List DV)):List I:=srows.flatten.map I.d
def AGZ {t:TypeId} (ht:P.underlying t=some (.slice e)) (hi:P.info? e=some i) (hz:i.zero=some z) (hzs:z.cells.size=i.size)
 (h:Bu base g lam Pr N F L A a w0 w) (hp:SV g lam p pvl) (hq:SV g lam q qvl) 
 (d:M6 A e i.size p=some (n,cs,σ1)) (hqr:q.rows=some srows) (nm:∀r∈srows,r.length=i.size) (ks:srows≠[])
 (h63:n+srows.length<=maxLen) (hby:(n+srows.length) * i.bytes<=140737488355328):
 ∃x g' w' j,(Builtin.append_ #[t,t] ty #[pvl,qvl]).run P w= .ok x w'/\g.le g'/\KP Pr w w'/\A.C j=none/\VR g' (.ms j (n+srows.length) i.size e) x/\
  Bu base g' lam Pr N F L (σ1.AI j (cs++BL srows)) a w0 w':=by
 obtain ⟨j,hj,htau,ha,htok⟩:=h.rel.fresh
 have K:∃(b0:Nat->Prop) (xs:List Value),w.ownsRow base e i.size pvl n xs/\cs.length=n * i.size/\VRs g cs xs/\BA cs=true/\(∀b,pvl.ownBlock=some b->b0 b)/\(∀b,b0 b->pvl.ownBlock=some b)/\
  Rel base g (fun x=>(Pr x\/∃k,lam k=some x)\/b0 x) σ1 w0 w/\(∀b,b0 b->(∀o,g.im b o=none)/\¬(Pr b\/∃k,lam k=some b)):=by
  unfold M6 at d;split at d
  . cases d;cases hp;refine ⟨fun _=>False,[],World.ownsRow_nil w base e i.size,by simp,.nil,rfl,fun b f=>by simp [Value.ownBlock] at f,fun b f=>f.elim,?_,fun b f=>f.elim⟩
    exact h.rel.grow (AW _) (fun _ _ _=>rfl) (Below.refl _ _) (fun b f=>by
     rcases f with f|f
     . exact ⟨(h.rel.pr b f).1,.inl f⟩
     grind)
  . rename_i i0 n0 s0 e0;split at d
    case isFalse=>cases d
    rename_i Z;obtain ⟨rfl,rfl⟩:=Z;simp only [AF] at d;obtain ⟨cs0,S,d⟩:=d;split at d
    case isFalse=>cases d
    rename_i T;cases d;cases hp with
    |@ms _ _ _ _ b cap hm hr hn hmx=>
     obtain ⟨b',h8,ho⟩:=h.rel.shr i0 cs S;rw [hm] at h8;cases h8;obtain ⟨vs,ty',hv,hl,hrt,h7⟩:=ho.row;obtain ⟨sc,fs⟩:=hrt _ hr;simp only at sc fs;subst fs;refine ⟨fun x=>x=b,vs.toList.take cs.length,⟨by simp;omega,.inr ⟨b,cap,vs,rfl,ho.low,hv,hn,hmx,sc,by rw [T]⟩⟩,T,h7,ho.ok,fun b2 D=>by grind [Value.ownBlock],fun b2 D=>by simp [Value.ownBlock,D],h.rel.AY4 S hm,fun b2 D=>?_⟩;subst D;exact ⟨ho.im,ho.pr⟩
  . cases d
 obtain ⟨b0,xs,U,hcl,h7,he,hb1,D,l,hb3⟩:=K;obtain ⟨m,news,v',w',al,rfl,hnl,E,y,hwh,hnr⟩:=AUH ht hi hz hzs h hq U hqr nm h63 hby
 have s:∀b,b < w.heap.size->v'.ownBlock≠some b->w'.heap[b]?=w.heap[b]?:=fun b f ks=>y.block b f (A5 ks);have h9:Below base w w':=⟨y.os,y.tape,y.output,y.size,fun k hk=>s k (by have:=h.rel.bs;omega) fun e'=>by have:=(E.lt k e').1;omega⟩
 have h4:Rel base g (fun x=>Pr x\/∃k,lam k=some x) σ1 w0 w':=
  l.grow y.size (fun b f hnp=>s b f (fun e'=>by
   grind)) h9 (fun b f=>⟨by have:=(h.rel.pr b f).1;grind,.inl (.inl f)⟩)
 -- the new row
 have h6:∃u cap cur,v'= .slice (some ⟨u,0,none⟩) (n+srows.length) cap/\base<=u/\w'.heap[u]?=some (.cells cur e (0,0))/\n+srows.length<=cap/\cap<=maxLen/\cur.size=cap * i.size/\cur.toList.take ((n+srows.length) * i.size)=xs++news:=by
  rcases E.2 with ⟨rfl,h0⟩|hh
  . grind
  . exact hh
 obtain ⟨u,cap,cur,rfl,hbg,h2,hy,hcm,hf,htake⟩:=h6
 have B:b0 u\/w.heap.size<=u:=by
  rcases hwh u rfl with G|G
  . grind
  . grind
 have hpr:¬(Pr u\/∃k,lam k=some u):=by
  rcases B with G|G
  . grind
  . intro hp2;have:=(h.rel.pr u hp2).1;omega
 have him:∀o,g.im u o=none:=by
  rcases B with G|G
  . grind
  . intro o;cases hi':g.im u o with
    |none=>rfl
    |some v=>have:=h.rel.WT hi';omega
 have hxl:xs.length=n * i.size:=U.1
 have hd:(cs++BL srows).length=(n+srows.length) * i.size:=by
  rw [A0,hcl,BL,AA,GG srows nm,Cj]
 have hvrs:VRs g (cs++BL srows) (xs++news):=by
  refine h7.append (VRs.Qe _ _ (by grind) (fun q c v R hv=>?_));rw [BL,Az,AO] at R;obtain ⟨x,hx,rfl⟩:=R;obtain ⟨v2,ds,hr2⟩:=hnr q x hx;rw [hv] at ds;cases ds;exact .d hr2
 have Y:BA (cs++BL srows)=true:=by
  simp only [Gm,he,Fe,BL];exact Xd _
 have hg:=Gh.OM (g:=g) (i:=j) (b:=u) (rt:=some (cap * i.size,e)) hj
 have h5:=h4.ABT (i:=j) (b:=u) (rt:=some (cap * i.size,e)) hj hbg (fun q ns hm=>?_) him (fun t2 v2 e2 s2 ht2 hm2 hvb=>?_) (cs:=cs++BL srows) h2 (by rw [hd,hf];exact CW _ hy)
  (fun t ht=>by grind) (by grind) Y hpr
 . refine ⟨_,g.share j u (some (cap * i.size,e)),w',j,al,hg,⟨y.size,fun b f=>s b (h.rel.pr b (.inl f)).1 (fun e'=>by grind [Value.ownBlock,AP])⟩,ha,
    .ms (by simp [Gh.share]) (by simp [Gh.share]) hy hcm,?_⟩
   exact h.step hg (fun k b f=>s b (h.Lv f) (fun e'=>by grind [Value.ownBlock,AP])) h5
 . rcases B with G|G
   . cases R:σ1.C q with
     |none=>exact ns R
     |some c=>
      obtain ⟨b2,Q,ho2⟩:=l.shr q c R;rw [hm] at Q;cases Q;exact ho2.pr (.inr G)
   . cases R:σ1.C q with
     |none=>exact ns R
     |some c=>have:=l.bS R hm;omega
 . obtain ⟨v3,e3,s3,n3,xs3,hs,h3,us⟩:=(l.tok t2 ht2).row;rw [hm2] at hs;cases hs;rcases B with G|G
   . grind
   . have:=(h3.lt u hvb).2;omega
def AZ0 (A:X):I->I->Option (Nat×Nat×Nat×List I×X)
 | .ms i n s e,h=>(Vm h).bind fun k=>(A.C i).bind fun cs=>if k<=n/\cs.length=n * s then some (k,s,e,cs.take (k * s),A.CM i) else none
 |_,_=>none
def AON {t e0:TypeId} (ht:P.underlying t=some (.slice e0)) {sz:Nat} (hsz:szT P e0=some sz) (h:Bu base g lam Pr N F L A a w0 w) (hp:SV g lam p pvl) (hq:SV g lam q qvl)
 {k s e:Nat} (hv:AZ0 A p q=some (k,s,e,cs,σ1)):
 ∃x g' j,(Instr.sliceAt t pvl none (some qvl) none).run P w= .ok x w/\g.le g'/\A.C j=none/\VR g' (.ms j k s e) x/\Bu base g' lam Pr N F L (σ1.AI j cs) a w0 w:=by
 obtain ⟨j,hj,htau,hblk,htok⟩:=h.rel.fresh;unfold AZ0 at hv;split at hv
 case h_2=>cases hv
 rename_i i n s0 e1;simp only [AF] at hv;obtain ⟨k0,hk,cs0,hcs0,hv⟩:=hv;split at hv
 case isFalse=>cases hv
 rename_i hcond;cases hv;obtain ⟨kk,rfl⟩:=Io hk hq;cases hp with
 |@ms _ _ _ _ b cap hm hr hn hmx=>
  obtain ⟨b',hb',ho⟩:=h.rel.shr i cs0 hcs0;rw [hm] at hb';cases hb';obtain ⟨vs,ty',hv,hl,hrt,hvr⟩:=ho.row;have hrt':=hrt _ hr;have hkn:k * s<=n * s:=CW _ hcond.1
  have hrun:(Instr.sliceAt t (.slice (some ⟨b,0,none⟩) n cap) none (some (.int kk k)) none).run P w= .ok (.slice (some ⟨b,0,none⟩) k cap) w:=by
   have hb1:(Instr.sliceBounds true n cap none (some (.int kk k)) none).run P w= .ok (0,k,cap) w:=by
    simp [Instr.sliceBounds,Jv (Ai hcond.1 hn)]
   simp [Instr.sliceAt,Instr.slice,B7 ht,hb1,Es hsz,Addr.add_lit]
  have hrel1:=h.rel.AY4 hcs0 hm
  have hrel2:Rel base g (fun x=>Pr x\/∃k,lam k=some x) (A.CM i) w0 w:=
   hrel1.grow (AW _) (fun _ _ _=>rfl) (Below.refl _ _) (fun b hb=>⟨(h.rel.pr b hb).1,.inl (.inl hb)⟩)
  have hle:=Gh.OM (g:=g) (i:=j) (b:=b) (rt:=some (cap * s,e)) hj;have hlen:(cs0.take (k * s)).length=k * s:=by simp;omega
  have hrel3:=hrel2.ABT (i:=j) (b:=b) (rt:=some (cap * s,e)) hj ho.low (fun q hq' hm'=>?_) ho.im (fun t2 v2 e2 s2 ht2 hm2 hvb=>?_) (cs:=cs0.take (k * s)) hv (by omega) (fun t ht=>by grind)
   (by rw [hlen];have:=hvr.take (k * s);grind) (P4 _ ho.ok) ho.pr
  . exact ⟨_,g.share j b (some (cap * s,e)),j,hrun,hle,hblk,.ms (by simp [Gh.share]) (by simp [Gh.share]) (Ai hcond.1 hn) hmx,h.step hle (fun _ _ _=>rfl) hrel3⟩
  . cases hc:(A.CM i).C q with
    |none=>exact hq' hc
    |some c=>
     obtain ⟨b2,hb2',ho2⟩:=hrel1.shr q c hc;rw [hm'] at hb2';cases hb2';exact ho2.pr (.inr rfl)
  . obtain ⟨v3,e3,s3,n3,xs3,hm3,hown3,hrest3⟩:=(hrel1.tok t2 ht2).row
    grind
end
section
section
variable {P:Program} (w:World)
def Vt (base:Nat) (t u ty e:TypeId) (i:TypeInfo) (E:P.underlying t=some (.slice e)) (F:P.underlying u=some .string) (B:P.info? e=some i) (hz:i.zero=some (.int .u8 0))
 (f:i.size=1) (L:i.bytes=1) (v:Value) (n:Nat) (h:List Value) (c:w.ownsRow base e 1 v n h) (s:ByteArray)
 (q:n+s.size<=maxLen) (z:n+s.size<=140737488355328) (m:base<=w.heap.size):
 ∃G w',(Builtin.append_ #[t,u] ty #[v,.string s]).run P w= .ok G w'/\w'.ownsRow base e 1 G (n+s.size) (h++Lib.strCells s)/\w.grownBy w' G.ownBlock/\
  (∀k,G.ownBlock=some k->v.ownBlock=some k\/w.heap.size<=k):=by
 have D:n+s.size<=9223372036854775807:=by simp only [maxLen] at q;omega
 have y:h.length=n:=by simpa using c.1
 have l:(h++Lib.strCells s).length=(n+s.size) * 1:=by rw [A0,y,Lib.strCells_length,Ag]
 have grown:∀(a:Nat),a < n+s.size->∀(row:Option Nat),
  (w.drew.alloc (.cells (h.toArray++(Lib.strCells s).toArray++Builtin.zeroCells (Value.int .u8 0).cells (grownCap w (n+s.size) a e - (n+s.size))) e)).ownsRow base e 1
    (.slice (some ⟨w.heap.size,0,none⟩) (n+s.size) (grownCap w (n+s.size) a e)) (n+s.size) (h++Lib.strCells s)/\
  w.grownBy (w.drew.alloc (.cells (h.toArray++(Lib.strCells s).toArray++Builtin.zeroCells (Value.int .u8 0).cells (grownCap w (n+s.size) a e - (n+s.size))) e)) row:=by
  intro a ho row;have Q:=grownCap_ge w (n+s.size) a e;have o:grownCap w (n+s.size) a e<=maxLen:=grownCap_le_maxLen w (n+s.size) a e q;refine ⟨⟨l,.inr ⟨w.heap.size,_,_,rfl,m,heap_alloc_new w.drew _,Q,o,?_,?_⟩⟩,⟨rfl,rfl,rfl,by simp,fun k x _=>heap_alloc_old w.drew _ k x⟩⟩
  . have h1:(Value.int IntKind.u8 0).cells.size=1:=rfl
    grind [Array.size_append,Tl,size_zeroCells,Lib.strCells_length]
  . grind
 rcases c.2 with ⟨rfl,rfl⟩|⟨g,cap,cur,rfl,K,Y,h0,o,N,S⟩
 . have hx:h=[]:=Ay y;subst hx;by_cases Z:s.size=0
   . have hn:Lib.strCells s=[]:=Ay (by grind);refine ⟨.slice none 0 0,w,?_,by grind,⟨rfl,rfl,rfl,AW _,fun _ _ _=>rfl⟩,by grind⟩;have U:=Lib.run_firstCells_string (P:=P) w 1 s;rw [Z] at U;simp [Builtin.append_,run_underlying E,run_underlying F,sizeOf,typeInfo,B,f,Builtin.lenOf,Z,U]
   . have R:=run_append_nil_string (P:=P) w t u ty e i (.int .u8 0) E F B hz s (by omega) (by omega) (by grind);have r:=grown 0 (by omega) (some w.heap.size);simp only [Av,A3,Array.empty_append] at r ⊢
     have e1:(s.data.map fun b=>Value.int .u8 b.toNat)=(Lib.strCells s).toArray:=by
      apply Array.ext';simp [Lib.strCells]
     grind [Value.ownBlock]
 . by_cases d:n+s.size<=cap
   . have T:cur.size=cap:=by simpa using N
     have R:=Lib.run_append_room_string (P:=P) w t u ty e i E F B f g n cap cur Y s d (by omega);refine ⟨_,_,R,⟨l,.inr ⟨g,cap,_,rfl,K,setRow_heap w g cur _ e _ Y,d,o,?_,?_⟩⟩,⟨rfl,rfl,rfl,by simp,fun k _ x=>setRow_other w g k _ (fun e=>x (by simp [Value.ownBlock,e]))⟩,fun k x=>.inl x⟩
     . grind
     grind
   . have p:∀j u,h[j]?=some u->w.cell? ((⟨g,0,none⟩:Addr).add j)=some u:=c.cells (g:=g) rfl;have R:=Lib.run_append_grow_string (P:=P) w t u ty e i (.int .u8 0) E F B hz ⟨g,0,none⟩ n cap h (by grind) p s (by omega) (by omega) (by rw [L];exact growslice_fits (by omega) (by omega));have r:=grown cap (by omega) (some w.heap.size)
     grind [Value.ownBlock]
end
variable {P:Program} {base N:Nat} {g g':Gh} {Pr:Nat->Prop} {A H:X} {w0 w w':World} {lam:Nat->Option Nat} {F:Fm} {L:Lm} {a:Act}
def mI (es:List (Int×Int)):MEs:=es.map fun p=>(.inl p.1,p.2)
def mK (ks:List (Int×List UInt8)):MEs:=ks.map fun k=>(.inr k,1)
def ExR (A:X) (R:I->X->Prop):EK->List I->Prop
 | .wZ ne,[v]=>match ABE v with
  |some b=>R (.d (.bool (b != ne))) A
  |none=>v.rows=some []/\∀b,R (.d (.bool b)) A
 | .apps e,[s,.d (.str x)]=>∃rows σ1,MT A e 1 s=some (rows,σ1)/\rows.length+x.length<=140737488355328/\∀t,A.tok t=false->R (.own t e 1 (rows++Bk x)) (σ1.BV t)
 | .alt t z,[]=>BA z=true/\∀i,(A.C i=none/\A.bt i=none)->R (.gp i 0) ((A.AI i z).BM i (z.length,t))
 | .zV e s,[.ms i n s1 e1,.mv i2 o2 n2 s2 e2]=>(i2=i/\s1=s/\s2=s/\e1=e)/\∃cs,A.C i=some cs/\(n+n2) * s<=cs.length/\(o2+n2) * s<=cs.length/\R (.ms i (n+n2) s e) (A.AI i (cs.take (n * s)++(cs.drop (o2 * s)).take (n2 * s)))
 | .zV e s,[p,.ms i2 n2 s2 e2]=>s2=s/\∃cs2 n cs σ1,A.C i2=some cs2/\cs2.length=n2 * s/\n2≠0/\n+n2<=1000000000/\M6 A e s p=some (n,cs,σ1)/\∀j,A.C j=none->R (.ms j (n+n2) s e) (σ1.AI j (cs++cs2))
 | .AJG e,[.bp t e' s,.d (.int .i64 n)]=>(e'=e/\n=s.length)/\s≠[]/\A.tok t=true/\R (.d (.str s)) (A.Bh t)
 | .mmk,[]=>∀t,A.tok t=false->R (.om t []) (A.BV t)
 | .AIH,[.om t es]=>(A.tok t=true/\es.length<=1000000000)/\R (.d (.int .i64 es.length)) A
 | .ANJ,[.om t es,.d (.int .i64 n)]=>A.tok t=true/\∃es0,es=mI es0/\∃x,(0<=x/\x<=1000000000)/\es0.lookup n=some x/\R (.tup [.d (.int .i64 x),.d (.bool true)]) A\/es0.lookup n=none/\R (.tup [.d (.int .i64 0),.d (.bool false)]) A
 | .ABB,[.om t es,.agg [.d (.int .i64 n),.d (.str s)]]=>A.tok t=true/\∃ks,es=mK ks/\R (.d (.bool (ks.contains (n,s)))) A
 |_,_=>False
def ExR.mono {R':I->X->Prop}:∀ {k:EK} {args:List I},ExR A R k args->(∀v H,(∀q,v.Cp q=false)->R v H->R' v H)->ExR A R' k args:=by
 intro k args h a;unfold ExR at h ⊢;split at h
 . split at h
   . exact a _ _ (fun _=>rfl) h
   . exact ⟨h.1,fun b=>a _ _ (fun _=>rfl) (h.2 b)⟩
 . obtain ⟨rows,σ1,c,d,e⟩:=h;exact ⟨rows,σ1,c,d,fun t o=>a _ _ (fun _=>rfl) (e t o)⟩
 . exact ⟨h.1,fun i s=>a _ _ (fun _=>rfl) (h.2 i s)⟩
 . obtain ⟨c,cs,d,e,l,m⟩:=h;exact ⟨c,cs,d,e,l,a _ _ (fun _=>rfl) m⟩
 . obtain ⟨c,cs2,n,cs,σ1,d,e,l,m,p,r⟩:=h;exact ⟨c,cs2,n,cs,σ1,d,e,l,m,p,fun j u=>a _ _ (fun _=>rfl) (r j u)⟩
 . exact ⟨h.1,h.2.1,h.2.2.1,a _ _ (fun _=>rfl) h.2.2.2⟩
 . exact fun t o=>a _ _ (fun _=>rfl) (h t o)
 . exact ⟨h.1,a _ _ (fun _=>rfl) h.2⟩
 . obtain ⟨c,f,g,x,d⟩:=h;exact ⟨c,f,g,x,d.imp (fun h=>⟨h.1,h.2.1,a _ _ (fun _=>rfl) h.2.2⟩) (fun h=>⟨h.1,a _ _ (fun _=>rfl) h.2⟩)⟩
 . obtain ⟨c,ks,g,d⟩:=h;exact ⟨c,ks,g,a _ _ (fun _=>rfl) d⟩
 grind
def K3 (P:Program) (m:Sem Value) (base:Nat) (g:Gh) (lam:Nat->Option Nat) (Pr:Nat->Prop) (N:Nat) (F:Fm) (L:Lm) (a:Act) (w0 w:World) (R:I->X->Prop):Prop:=
 ∃x g' w' v H,m.run P w= .ok x w'/\g.le g'/\KP Pr w w'/\VR g' v x/\Bu base g' lam Pr N F L H a w0 w'/\R v H
def tE {x:I} (b:VR g x v) {rows:List (List DV)} (a:x.rows=some rows):∃c cap,v= .slice c rows.length cap:=by
 have h:RD g.im (.sl rows) v:=by
  cases x with
  |d y=>cases y<;>simp only [I.rows,AP] at a<;>try (cases a;done)
        subst a;cases b with|d h=>exact h
  |Ac=>simp only [I.rows,AP] at a;subst a;cases b;exact .nil (D7 _) (fun _=>rfl)
  |own _ _ _ _=>simp only [I.rows,AP] at a;subst a;cases b with|own h _ _=>exact h
  |clip _=>simp only [I.rows,AP] at a;subst a;cases b with|clip h=>exact h
  |_=>cases a
 obtain ⟨c,cap,h,_⟩:=h.NM
 grind
def AIM {x:I} (c:VR g x v) {b:Bool} (a:ABE x=some b):∃e n cap,v= .slice e n cap/\e.isNone=b:=by
 cases x<;>simp only [ABE] at a<;>try (cases a;done)
 . rename_i y;cases y<;>try (cases a;done)
   rename_i rows;cases rows with
   |nil=>cases a
   |cons r rows=>
    cases a;cases c with
    |d h=>cases h with|sl=>grind
 . cases a;cases c;grind
 . rename_i rows;cases rows with
   |nil=>cases a
   |cons r rows=>
    cases a;cases c with
    |own h=>cases h with|sl=>grind
 . rename_i rows;cases rows with
   |nil=>cases a
   |cons r rows=>
    cases a;cases c with
    |clip h=>
     generalize f:Value.slice _ _ _=vv at h ⊢;cases h with|sl=>grind
 . cases a;cases c;grind
 . cases a;cases c;grind
def tF {t:TypeId} (p:P.underlying t=some (.slice e)) (h:Bu base g lam Pr N F L A a w0 w) {ne:Bool} {x:I} (m:VR g x v) (j:ExR A R (.wZ ne) [x]) (y z:Operand):
 K3 P (do eqGuard (if ne then .neq else .eql) t y z v (.slice none 0 0);binOp (if ne then .neq else .eql) t v (.slice none 0 0)) base g lam Pr N F L a w0 w R:=by
 have i:∀c n cap,v= .slice c n cap->((do eqGuard (if ne then .neq else .eql) t y z v (.slice none 0 0);binOp (if ne then .neq else .eql) t v (.slice none 0 0):Sem Value)).run P w= .ok (.bool (c.isNone != ne)) w:=by
  rintro c n cap rfl
  have heq:∀d,(Op.equalIn (d+1) t (.slice c n cap) (.slice none 0 0)).run P w= .ok c.isNone w:=fun d=>by
   cases c<;>simp [Op.equalIn,run_underlying p]
  have f:(Op.equal t (.slice c n cap) (.slice none 0 0)).run P w= .ok c.isNone w:=heq 9999;have o:(eqGuard (if ne then .neq else .eql) t y z (.slice c n cap) (.slice none 0 0)).run P w= .ok () w:=by cases ne<;>simp [eqGuard]
  simp only [Sem.run_bind,o,Result.andThen_ok];cases ne
  . simp only [binOp,As,if_false];simp [f]
  . simp only [binOp,if_true];simp [f]
 simp only [ExR] at j;cases k:ABE x with
 |some b=>
  rw [k] at j;obtain ⟨c,n,cap,l,q⟩:=AIM m k;exact ⟨_,g,w,_,A,i c n cap l,Gh.le_refl g,KP.refl Pr w,.d .bool,h,by grind⟩
 |none=>
  rw [k] at j;obtain ⟨c,cap,l⟩:=tE m j.1;exact ⟨_,g,w,_,A,i c _ cap l,Gh.le_refl g,KP.refl Pr w,.d .bool,h,j.2 _⟩
theorem cL (s:List UInt8):∀r∈Bk s,r.length=1:=by
 intro r a;simp only [Bk,BR] at a
 grind
def Z8 (s:List UInt8):(Bk s).flatten=s.map fun b=>DV.int .u8 b.toNat:=by
 induction s with
 |nil=>rfl
 |cons b s a=>
  grind [List.map,Bk]
def AG0 {t u:TypeId} (ht:P.underlying t=some (.slice e)) (hu:P.underlying u=some .string) (hi:P.info? e=some i) (hz:i.zero=some (.int .u8 0)) (h4:i.size=1) (he:i.bytes=1)
 (h:Bu base g lam Pr N F L A a w0 w) (hp:VR g p pvl) (hq:VR g q qvl) (hr:ExR A R (.apps e) [p,q]):
 K3 P (Builtin.append_ #[t,u] ty #[pvl,qvl]) base g lam Pr N F L a w0 w R:=by
 cases q<;>try (exact (show False from hr).elim)
 rename_i y;cases y<;>try (exact (show False from hr).elim)
 rename_i s;obtain ⟨rows,σ1,l,al,hk⟩:=hr;cases hq with|d hq=>cases hq with|str us=>
 obtain ⟨t',_,S,_,ha⟩:=h.rel.fresh
 have c:∃m,uN base g (fun b=>Pr b\/∃k,lam k=some b) σ1 w e 1 pvl rows.length m/\σ1.le A/\(∀r∈rows,r.length=1)/\
  (∀(j:Nat) (x:DV),rows.flatten[j]?=some x->∃v,m[j]?=some v/\RD g.im x v):=by
  unfold MT at l;split at l
  . cases l;cases hp;exact ⟨[],uN.nil _ _ _ _ _ _ _,X.le_refl _,by simp,by simp⟩
  . split at l
    . rename_i Y;obtain ⟨rfl,rfl,hl⟩:=Y;cases l;cases hp with
      |own o h5 D=>
       obtain ⟨n,m,hm⟩:=h.rel.AZE hl h5 (by cases o<;>rfl);have hn:=AK2 hm.1 o;subst hn;refine ⟨m,hm,X.Yk _ _,D,fun j x T=>?_⟩;have h8:0 < rows.length:=by cases rows with|nil=>simp at T|cons=>simp
       rcases hm.1.2 with ⟨_,h0⟩|⟨gg,cap,cur,rfl,hd,hg,_⟩
       . omega
       obtain ⟨vs,hy,_,hs,ks⟩:=RD.cellsOf D o h8;obtain ⟨v,hv,h9⟩:=ks j x T;refine ⟨v,?_,h9⟩;have hj:j < m.length:=by rw [hm.1.1,<- hy];exact (AG.1 hv).1
       have h1:=h.rel.im _ _ _ (hs j v hv);have h2:=hm.1.cells (g:=gg) rfl j m[j] (by simp [hj]);rw [Addr.add_lit,Av] at h2
       grind
    . cases l
  . cases l
 obtain ⟨m,c,h7,D,ns⟩:=c;have Q:ByteArray.size ⟨s.toArray⟩=s.length:=by simp [ByteArray.size]
 have U:Lib.strCells ⟨s.toArray⟩=s.map fun b=>Value.int .u8 b.toNat:=by simp [Lib.strCells]
 obtain ⟨v',w',hc,f,B,h6⟩:=Vt (P:=P) w base t u ty e i ht hu hi hz h4 he pvl rows.length m c.1 ⟨s.toArray⟩ (by rw [Q];simp only [maxLen];omega) (by grind) h.rel.bs;rw [Q,U] at f;have z:=h.rel.less h7;have Z:=z.nP (news:=s.map fun b=>Value.int .u8 b.toNat) (e:=e) (size:=1) (t':=t') c h6 S;have h3:=z.AY1 (t':=t') c f B h6 S
 have K:∀b,v'.ownBlock=some b->¬(Pr b\/∃k,lam k=some b):=fun b G=>by
  rcases h6 b G with ho|fs
  . exact (c.2 b ho).2.1
  . intro hp;have:=(h.rel.pr b hp).1;omega
 refine ⟨v',g.grow v' e 1 t' (m++s.map fun b=>Value.int .u8 b.toNat),w',.own t' e 1 (rows++Bk s),σ1.BV t',hc,Z,⟨B.size,fun b G=>B.block b (h.rel.pr b (.inl G)).1 (fun e'=>K b e'.symm (.inl G))⟩,?_,
  h.step Z (fun k b G=>B.block b (h.Lv G) (fun e'=>K b e'.symm (.inr ⟨k,G⟩))) h3,hk t' ha⟩
 have nm:(Bk s).length=s.length:=by simp [Bk]
 have E:∀r∈rows++Bk s,r.length=1:=fun r hr=>by
  grind [cL]
 refine .own ?_ (by simp [Gh.grow]) E;have cs:m.length=rows.length * 1:=c.1.1;rcases f.2 with ⟨rfl,h0⟩|⟨gg,cap,cur,rfl,hd,hg,ds,hf,_⟩
 . have:rows++Bk s=[]:=Ay (by grind);rw [this];exact .nil (D7 _) (fun _=>rfl)
 . have:=RD.AIP (im:=(g.grow (.slice (some ⟨gg,0,none⟩) (rows.length+s.length) cap) e 1 t' (m++s.map fun b=>Value.int .u8 b.toNat)).im) (rows:=rows++Bk s) (size:=1) (b:=gg) (off:=0) (cap:=cap) (ys:=m++s.map fun b=>Value.int .u8 b.toNat)
    E (by grind) hf (by grind) (fun j u hu=>by simp only [Gh.grow,Value.ownBlock,if_true,Av];exact hu) (fun j x T=>by
     rw [Js,Z8] at T;have sc:=GG rows D;rcases Ff j rows.flatten.length with h1|h1
     . rw [Di h1] at T;obtain ⟨v,hv,o⟩:=ns j x T;exact ⟨v,by grind,o.mono Z.im⟩
     . rw [BY h1,Az,AO] at T;obtain ⟨b,G,rfl⟩:=T;refine ⟨.int .u8 b.toNat,?_,.int ?_⟩
       . grind
       . have:=b.toNat_lt;grind [IntKind.has,IntKind.min,IntKind.max,IntKind.signed,IntKind.bits])
   grind
theorem P8 (w:World) (p:Addr) (n b:Nat) (h:b≠p.block):(w.freeze p n).heap[b]?=w.heap[b]?:=by
 unfold World.freeze
 grind
def Xj (w:World) (p:Addr) (n:Nat):(w.freeze p n).heap.size=w.heap.size:=by
 grind [World.freeze]
def AD5 (w:World) (p:Addr) (n b o:Nat):(w.freeze p n).cell? ⟨b,o,none⟩=w.cell? ⟨b,o,none⟩:=by
 by_cases a:b=p.block
 . unfold World.freeze;split
   . rfl
   . simp only [World.cell?,WD,a,if_true]
     grind
 grind [World.cell?_of_block,P8]
def Rel.frozen (h:Rel base g Pr A w0 w) (B:base<=b) (G:¬Pr b) (r:∀i,A.C i≠none->g.mu i≠some b) (u:∀t v e s,A.tok t=true->g.tau t=some (v,e,s)->YU v≠some b):
 Rel base g Pr A w0 (w.freeze ⟨b,0,none⟩ n):=by
 have q:∀k,k≠b->(w.freeze ⟨b,0,none⟩ n).heap[k]?=w.heap[k]?:=fun k p=>P8 w _ n k p;refine ⟨fun c o v y=>by rw [AD5];exact h.im c o v y,fun i cs D=>?_,h.inj,fun t l=>?_,fun k p=>by rw [Xj];exact h.pr k p,h.bel.trans (Lib.below_freeze (Below.refl base w) B n),by rw [Xj];exact h.bs,h.fin,h.st⟩
 . obtain ⟨c,d,f⟩:=h.shr i cs D;obtain ⟨vs,ty,y,E,l,K⟩:=f.row;have F:c≠b:=fun e=>r i (by grind) (e ▸ d);exact ⟨c,d,f.ok,⟨vs,ty,by grind,E,l,K⟩,f.low,f.im,f.pr⟩
 . obtain ⟨v,e,size,m,L,d,j,a⟩:=(h.tok t l).row;exact ⟨v,e,size,m,L,d,Qf j fun c x=>q c (fun z=>u t v e size l d (z ▸ x)),a⟩
def AJH {pt it:TypeId} (hp:P.underlying pt=some (.pointer e)) (hc:P.cellsOf e=1) (h:Bu base g lam Pr N F L A a w0 w) (h1:VR g p pvl) (hq:VR g q qvl) 
 (u:ExR A R (.AJG e) [p,q]):K3 P (Builtin.unsafeString_ #[pt,it] ty #[pvl,qvl]) base g lam Pr N F L a w0 w R:=by
 cases p<;>try (exact (show False from u).elim)
 rename_i t G s;cases q<;>try (exact (show False from u).elim)
 rename_i y;cases y<;>try (exact (show False from u).elim)
 rename_i k n0;cases k<;>try (exact (show False from u).elim)
 obtain ⟨⟨rfl,rfl⟩,r,h5,hk⟩:=u;cases hq with|d hq=>cases hq with|int h8=>
 cases h1 with
 |@bp _ _ cap b off _ B U=>
  obtain ⟨n,xs,c⟩:=h.rel.AZE h5 B rfl;have Y:s.length≠0:=by simpa using r
  rcases c.1.2 with ⟨E,_⟩|⟨gg,h6,cur,E,Q,T,Z,S,h7,h4⟩
  . cases E
  . simp only [Value.slice.injEq,AP,Addr.mk.injEq] at E;obtain ⟨⟨rfl,rfl,_⟩,rfl,rfl⟩:=E;have h0:(Value.slice (some ⟨b,0,none⟩) s.length cap).ownBlock=some b:=rfl;obtain ⟨_,i,h2,D⟩:=c.2 b h0;have z:s.length<=maxLen:=Ai Z S
    have v:=Lib.run_unsafeString_row (P:=P) w pt it ty G hp hc b cur.size (by simp [World.shape?,T]) s r (by grind) (by simp only [maxLen] at z;omega)
     (fun j x hx=>by rw [Addr.add_lit];exact h.rel.im _ _ _ (U j x hx))
    have l:=h.rel.less (X.Yk A t);have m:=l.frozen (n:=s.length) Q i h2 (fun t' v' G s' h3=>D t' v' G s' h3);refine ⟨_,g,_,.d (.str s),A.Bh t,v,Gh.le_refl g,⟨by rw [Xj];grind,fun o f=>P8 w _ _ o (fun (K:o=b)=>i (.inl (K ▸ f)))⟩,.d (.str z),?_,hk⟩;exact h.step (Gh.le_refl g) (fun k o f=>P8 w _ _ o (fun (K:o=b)=>i (.inr ⟨k,K ▸ f⟩))) m
def ALT {t:TypeId} {z:List I} (G:W5 P t=some z) (h:Bu base g lam Pr N F L A a w0 w) (E:ExR A R (.alt t z) []):
 ∃x w',(∀o:Oper,o.op= .alloc t->(execOp a.eval o).run P w= .ok (.value x) w')/\∃g' v H,g.le g'/\KP Pr w w'/\VR g' v x/\Bu base g' lam Pr N F L H a w0 w'/\R v H:=by
 obtain ⟨n,B⟩:=E;obtain ⟨i,r,y,q,_,m⟩:=LZ G;refine ⟨.pointer (some ⟨w.heap.size,0,none⟩),w.alloc (.cells r.cells t),fun o p=>by unfold execOp;simp [p,Instr.alloc,zeroValue,typeInfo,y,q,newVar,newRow],?_⟩;have s:r.cells.size=z.length:=by have:=(m g).length;simpa using this
 obtain ⟨j,f,_,d,_⟩:=h.rel.fresh;have l:=h.rel.share (rt:=some (z.length,t)) f (AW _) (h.rel.alloc (.cells r.cells t)) (heap_alloc_new w _) (fun _ h=>by grind) (m g) n (fun D=>by have:=(h.rel.pr _ D).1;omega);have e:=Gh.OM (g:=g) (i:=j) (b:=w.heap.size) (rt:=some (z.length,t)) f;have u:=h.step e (fun k b c=>heap_alloc_old w _ b (h.Lv c)) (l.BM (i:=j) (x:=(z.length,t)) (by simp [Gh.share]))
 exact ⟨_,.gp j 0,_,e,⟨by simp,fun b c=>heap_alloc_old w _ b (h.rel.pr b (.inl c)).1⟩,.gp (by simp [Gh.share]),u,B j ⟨d,by
  cases c:A.bt j with
  |none=>rfl
  |some x=>have:=h.rel.st.2 j x c;grind⟩⟩
def cN:∀ {rows:List (List DV)} {s:List UInt8},bytesOf rows=some s->rows=Bk s
 |[],s,h=>by simp only [bytesOf,AP] at h;subst h;rfl
 |r::rows,s,h=>by
  simp only [bytesOf,AF,AO] at h;obtain ⟨b,a,e,c,rfl⟩:=h;have:=cN c;subst this;unfold byteOf at a;split at a
  . split at a
    . rename_i n d;cases a
      have:((UInt8.ofNat n.toNat).toNat:Int)=n:=by
       have:n.toNat < 256:=by omega
       simp [Nat.mod_eq_of_lt this];omega
      grind [Bk]
    . cases a
  . cases a
def APM (h:RD g.im (.sl (Bk s)) v) (k:s≠[]):∃b off cap,v= .slice (some ⟨b,off,none⟩) s.length cap/\s.length<=cap/\∀(j:Nat) (x:UInt8),s[j]?=some x->g.im b (off+j)=some (.int .u8 x.toNat):=by
 have c:(Bk s).length=s.length:=by simp [Bk]
 have a:0 < (Bk s).length:=by rw [c];exact Ds.2 k
 obtain ⟨f,cap,rfl,_⟩:=h.NM
 obtain ⟨b,off,i,rfl⟩:∃b off,(Bk s).length<=cap/\f=some ⟨b,off,none⟩:=by
  generalize e:(Value.slice f (Bk s).length cap)=vv at h;generalize m:Bk s=r at h e a ⊢;cases h with
  |nil=>simp at a
  |sl p=>grind
 refine ⟨b,off,cap,by rw [c],by grind,fun j x n=>?_⟩;obtain ⟨vs,_,_,o,l⟩:=RD.cellsOf (cL s) h a;obtain ⟨v,q,d⟩:=l j (.int .u8 x.toNat) (by rw [Z8,Az,n];rfl);cases d
 grind
def AOT {ts:Array TypeId} {x:I} (n:VR g x v) {r:I} (h:xV .usd [x]=some r):∃y,(Builtin.unsafeSliceData_ ts ty #[v]).run P w= .ok y w/\VR g r y:=by
 obtain ⟨t,e,i,rows,rfl,h⟩:∃t e i rows,x= .own t e 1 (i::rows)/\(bytesOf (i::rows)).map (fun s=>I.bp t e s)=some r:=by
  unfold xV at h
  grind
 obtain ⟨s,l,rfl⟩:=AO.1 h;have c:=cN l;cases n with
 |own a d m=>
  rw [c] at a;have j:s≠[]:=by rintro rfl;cases c
  obtain ⟨b,off,cap,rfl,k,f⟩:=APM a j;have:cap≠0:=by have:=Ds.2 j;omega
  exact ⟨_,Lib.run_unsafeSliceData_row (P:=P) w ts ty ⟨b,off,none⟩ s.length cap this,.bp d f⟩
end
section
variable {P:Program} {base N:Nat} {g g':Gh} {Pr:Nat->Prop} {A H:X} {w0 w w':World} {lam:Nat->Option Nat} {F:Fm} {L:Lm} {a:Act}
theorem Bu.row (h:Bu base g lam Pr N F L A a w0 w) {i b:Nat} {cs cs':List I} (q:A.C i=some cs) (r:g.mu i=some b) {cur:Array Value} {ty:TypeId} (f:w.heap[b]?=some (.cells cur ty (0,0)))
 {new:Array Value} (x:new.size=cur.size) (s:cs'.length<=new.size) (y:VRs g cs' (new.toList.take cs'.length)) (o:BA cs'=true):
 Bu base g lam Pr N F L (A.AI i cs') a w0 (w.setRow b new)/\KP Pr w (w.setRow b new):=by
 obtain ⟨p,c,n⟩:=h.rel.shr i cs q;rw [r] at c;cases c;obtain ⟨vs,B,m,u,v,z⟩:=n.row;rw [f] at m;cases m;have D:(w.setRow b new).heap.size=w.heap.size:=by simp [World.setRow]
 have d:∀k,k≠b->(w.setRow b new).heap[k]?=w.heap[k]?:=fun k j=>setRow_other w b k _ j;have l:=h.rel.write (w':=w.setRow b new) q r (by omega) (fun k _ j=>d k j) ⟨rfl,rfl,rfl,by omega,fun k j=>d k (by have:=n.low;omega)⟩ (setRow_heap w b cur new ty _ f) s (fun t E=>by grind) y o;exact ⟨h.step (Gh.le_refl g) (fun k p c=>d p (fun e=>n.pr (.inr ⟨k,e ▸ c⟩))) l,by omega,fun k j=>d k (fun e=>n.pr (.inl (e ▸ j)))⟩
def Bu.part (h:Bu base g lam Pr N F L A a w0 w) {i:Nat} (p:A.C i=some cs) (r:g.mu i=some b):
 ∃cur ty,w.heap[b]?=some (.cells cur ty (0,0))/\cs.length<=cur.size/\VRs g cs (cur.toList.take cs.length)/\BA cs=true/\(∀t,g.rm i=some t->cur.size=t.1/\ty=t.2)/\
  ∀o m,o+m<=cs.length->VRs g ((cs.drop o).take m) ((cur.toList.drop o).take m)/\((cur.toList.drop o).take m).length=m/\(∀v∈(cur.toList.drop o).take m,v.oneCell'=true)/\∀j v,((cur.toList.drop o).take m)[j]?=some v->w.cell? ((⟨b,o,none⟩:Addr).add j)=some v:=by
 obtain ⟨x,c,l⟩:=h.rel.shr i cs p;rw [r] at c;cases c;obtain ⟨cur,ty,u,q,n,f⟩:=l.row;refine ⟨cur,ty,u,q,f,l.ok,n,fun o m s=>?_⟩
 have e:((cur.toList.take cs.length).drop o).take m=(cur.toList.drop o).take m:=by
  rw [List.drop_take,List.take_take,I4 (by omega)]
 have k:=(f.drop o).take m;rw [e] at k;have d:((cur.toList.drop o).take m).length=m:=by simp;omega
 refine ⟨k,d,k.AbV ?_,fun j v y=>?_⟩
 . have:=l.ok
   grind [BA,Ao,I7,DA]
 grind [Addr.add_lit,World.cell?]
def ALW {t:TypeId} (h:Bu base g lam Pr N F L A a w0 w) (hp:SV g lam p pvl) {m:Nat} {newcs:List I} 
 (d:M6 A e i.size p=some (n,cs,σ1)) (hnl:newcs.length=m * i.size) (hvn:VRs g newcs news) (hs:BA newcs=true) (hq:0 < m)
 (h6:∀E,w.ownsRow base e i.size pvl n E->∃(v':Value) (w':World),(Builtin.append_ #[t,t] ty #[pvl,qvl]).run P w= .ok v' w'/\w'.ownsRow base e i.size v' (n+m) (E++news)/\w.grownBy w' v'.ownBlock/\(∀k,v'.ownBlock=some k->pvl.ownBlock=some k\/w.heap.size<=k)):
 ∃x g' w' j,(Builtin.append_ #[t,t] ty #[pvl,qvl]).run P w= .ok x w'/\g.le g'/\KP Pr w w'/\A.C j=none/\VR g' (.ms j (n+m) i.size e) x/\
  Bu base g' lam Pr N F L (σ1.AI j (cs++newcs)) a w0 w':=by
 obtain ⟨j,hj,htau,h9,htok⟩:=h.rel.fresh
 have G:∃(b0:Nat->Prop) (E:List Value),w.ownsRow base e i.size pvl n E/\cs.length=n * i.size/\VRs g cs E/\BA cs=true/\(∀b,pvl.ownBlock=some b->b0 b)/\(∀b,b0 b->pvl.ownBlock=some b)/\
  Rel base g (fun x=>(Pr x\/∃k,lam k=some x)\/b0 x) σ1 w0 w/\(∀b,b0 b->(∀o,g.im b o=none)/\¬(Pr b\/∃k,lam k=some b)):=by
  unfold M6 at d;split at d
  . cases d;cases hp;refine ⟨fun _=>False,[],World.ownsRow_nil w base e i.size,by simp,.nil,rfl,fun b f=>by simp [Value.ownBlock] at f,fun b f=>f.elim,?_,fun b f=>f.elim⟩
    exact h.rel.grow (AW _) (fun _ _ _=>rfl) (Below.refl _ _) (fun b f=>by
     rcases f with f|f
     . exact ⟨(h.rel.pr b f).1,.inl f⟩
     grind)
  . rename_i i0 n0 s0 e0;split at d
    case isFalse=>cases d
    rename_i U;obtain ⟨rfl,rfl⟩:=U;simp only [AF] at d;obtain ⟨cs0,Q,d⟩:=d;split at d
    case isFalse=>cases d
    rename_i R;cases d;cases hp with
    |@ms _ _ _ _ b cap hm hr hn hmx=>
     obtain ⟨b',h7,ho⟩:=h.rel.shr i0 cs Q;rw [hm] at h7;cases h7;obtain ⟨vs,ty',hv,hl,hrt,h5⟩:=ho.row;obtain ⟨ks,ns⟩:=hrt _ hr;simp only at ks ns;subst ns;refine ⟨fun x=>x=b,vs.toList.take cs.length,⟨by simp;omega,.inr ⟨b,cap,vs,rfl,ho.low,hv,hn,hmx,ks,by rw [R]⟩⟩,R,h5,ho.ok,fun b2 z=>by grind [Value.ownBlock],fun b2 z=>by simp [Value.ownBlock,z],h.rel.AY4 Q hm,fun b2 z=>?_⟩;subst z;exact ⟨ho.im,ho.pr⟩
  . cases d
 obtain ⟨b0,E,S,sc,h5,hd,hb1,z,l,hb3⟩:=G;obtain ⟨v',w',hy,B,u,hwh⟩:=h6 E S;have r:∀b,b < w.heap.size->v'.ownBlock≠some b->w'.heap[b]?=w.heap[b]?:=fun b f hq=>u.block b f (A5 hq);have h8:Below base w w':=⟨u.os,u.tape,u.output,u.size,fun k hk=>r k (by have:=h.rel.bs;omega) fun e'=>by have:=(B.lt k e').1;omega⟩
 have h2:Rel base g (fun x=>Pr x\/∃k,lam k=some x) σ1 w0 w':=
  l.grow u.size (fun b f hnp=>r b f (fun e'=>by
   grind)) h8 (fun b f=>⟨by have:=(h.rel.pr b f).1;grind,.inl (.inl f)⟩)
 -- the new row
 have h4:∃s cap cur,v'= .slice (some ⟨s,0,none⟩) (n+m) cap/\base<=s/\w'.heap[s]?=some (.cells cur e (0,0))/\n+m<=cap/\cap<=maxLen/\cur.size=cap * i.size/\cur.toList.take ((n+m) * i.size)=E++news:=by
  rcases B.2 with ⟨rfl,h0⟩|hh
  . omega
  . exact hh
 obtain ⟨s,cap,cur,rfl,nm,Y,hi,fs,he,htake⟩:=h4
 have y:b0 s\/w.heap.size<=s:=by
  rcases hwh s rfl with D|D
  . grind
  . grind
 have hpr:¬(Pr s\/∃k,lam k=some s):=by
  rcases y with D|D
  . grind
  . intro hp2;have:=(h.rel.pr s hp2).1;omega
 have us:∀o,g.im s o=none:=by
  rcases y with D|D
  . grind
  . intro o;cases ds:g.im s o with
    |none=>rfl
    |some v=>have:=h.rel.WT ds;omega
 have hxl:E.length=n * i.size:=S.1
 have ha:(cs++newcs).length=(n+m) * i.size:=by
  rw [A0,sc,hnl,Cj]
 have hvrs:VRs g (cs++newcs) (E++news):=h5.append hvn
 have T:BA (cs++newcs)=true:=by
  simp only [Gm,hd,hs,XF]
 have hf:=Gh.OM (g:=g) (i:=j) (b:=s) (rt:=some (cap * i.size,e)) hj
 have h3:=h2.ABT (i:=j) (b:=s) (rt:=some (cap * i.size,e)) hj nm (fun q hx hm=>?_) us (fun t2 v2 e2 s2 ht2 hm2 hvb=>?_) (cs:=cs++newcs) Y (by rw [ha,he];exact CW _ hi)
  (fun t ht=>by grind) (by grind) T hpr
 . refine ⟨_,g.share j s (some (cap * i.size,e)),w',j,hy,hf,⟨u.size,fun b f=>r b (h.rel.pr b (.inl f)).1 (fun e'=>by grind [Value.ownBlock,AP])⟩,h9,
    .ms (by simp [Gh.share]) (by simp [Gh.share]) hi fs,?_⟩
   exact h.step hf (fun k b f=>r b (h.Lv f) (fun e'=>by grind [Value.ownBlock,AP])) h3
 . rcases y with D|D
   . cases hc:σ1.C q with
     |none=>exact hx hc
     |some c=>
      obtain ⟨b2,K,ho2⟩:=l.shr q c hc;rw [hm] at K;cases K;exact ho2.pr (.inr D)
   . cases hc:σ1.C q with
     |none=>exact hx hc
     |some c=>have:=l.bS hc hm;omega
 . obtain ⟨v3,e3,s3,n3,xs3,hg,Z,al⟩:=(l.tok t2 ht2).row;rw [hm2] at hg;cases hg;rcases y with D|D
   . grind
   . have:=(Z.lt s hvb).2;omega
def AG2 {t:TypeId} (ht:P.underlying t=some (.slice e)) (Y:P.info? e=some i) (hz:i.zero=some z) (B:z.cells.size=i.size) (r:i.bytes<=10000) (E:0 < i.size)
 (h:Bu base g lam Pr N F L A a w0 w) {i2 n2 s2 e2:Nat} (hp:VR g p pvl) (hq:VR g (.ms i2 n2 s2 e2) qvl) 
 (hr:s2=i.size/\∃cs2 n cs σ1,A.C i2=some cs2/\cs2.length=n2 * i.size/\n2≠0/\n+n2<=1000000000/\M6 A e i.size p=some (n,cs,σ1)/\∀j,A.C j=none->R (.ms j (n+n2) i.size e) (σ1.AI j (cs++cs2))):
 K3 P (Builtin.append_ #[t,t] ty #[pvl,qvl]) base g lam Pr N F L a w0 w R:=by
 obtain ⟨rfl,cs2,n,cs,σ1,o,s,h8,q,v,Z⟩:=hr;cases hq with
 |@ms _ _ _ _ b cap hm h9 hn h7=>
 obtain ⟨cur,ha,D,h0,hc,u,hb,f⟩:=h.part o hm;obtain ⟨m,y,k,c⟩:=f 0 (n2 * i.size) (by omega);rw [N9,AR (by omega)] at m
 have d:=ALW (P:=P) (t:=t) (ty:=ty) (qvl:= .slice (some ⟨b,0,none⟩) n2 cap) h (SV.FT hp) v s m u (by omega) (fun xs l=>by
  refine Eg (P:=P) w base t ty e i z i.size i.bytes ht Y hz rfl rfl B pvl n xs l ⟨b,0,none⟩ n2 cap _ y c k (by simp only [maxLen];omega) ?_ h.rel.bs
  calc (n+n2) * i.bytes<=1000000000 * 10000:=Tm q r
   _<=140737488355328:=by decide)
 obtain ⟨x,g',w',j,G,K,Q,S,T,U⟩:=d;exact ⟨x,g',w',_,_,G,K,Q,T,U,Z j S⟩
def AG1 {t:TypeId} (ht:P.underlying t=some (.slice e)) (hi:P.info? e=some i)
 (h:Bu base g lam Pr N F L A a w0 w) (hp:VR g p pvl) (hq:VR g q qvl) (hr:ExR A R (.zV e i.size) [p,q]) (r:0 < i.size) (hz:i.zero=some z) (hl:z.cells.size=i.size) (h6:i.bytes<=10000):
 K3 P (Builtin.append_ #[t,t] ty #[pvl,qvl]) base g lam Pr N F L a w0 w R:=by
 by_cases h4:∃G c K s,q= .ms G c K s
 . obtain ⟨G,c,K,s,rfl⟩:=h4;exact AG2 ht hi hz hl h6 r h hp hq (by cases p<;>exact hr)
 have h5:∀G c K s,q≠.ms G c K s:=fun G c K s he=>h4 ⟨G,c,K,s,he⟩;cases p<;>cases q<;>try (first|exact absurd rfl (h5 _ _ _ _)|exact (show False from hr).elim)
 rename_i i1 n s1 e1 G j c K s;obtain ⟨⟨rfl,rfl,rfl,rfl⟩,cs,hb,h8,h9,hk⟩:=hr;cases hp with
 |@ms _ _ _ _ b cap S B hn Z=>
 cases hq with
 |@mv _ _ _ _ _ b2 ob k Y hs hy ho ha=>
 rw [S] at Y;cases Y;obtain ⟨cur,m,d,hv,hj,v,hd,y⟩:=h.part hb S;obtain ⟨T,rfl⟩:=hd _ B;simp only at T
 have l:n+c<=cap:=by
  have:(n+c) * i.size<=cap * i.size:=by rw [<- T];omega
  exact Nat.le_of_mul_le_mul_right this r
 rw [Cj] at h8 h9;obtain ⟨hg,E,h3,u⟩:=y (j * i.size) (c * i.size) (by omega);have h1:=hj.take (n * i.size);rw [List.take_take,I4 (by omega)] at h1;have h7:((cs.drop (j * i.size)).take (c * i.size)).length=c * i.size:=by simp;omega
 have hc:(cs.take (n * i.size)++(cs.drop (j * i.size)).take (c * i.size)).length=n * i.size+c * i.size:=by
  rw [A0,h7,Bs];omega
 have o:BA (cs.take (n * i.size)++(cs.drop (j * i.size)).take (c * i.size))=true:=by
  simp only [BA,Ao] at v ⊢;intro x hx;rcases A2.1 hx with hx|hx
  . exact v x (DA hx)
  . exact v x (I7 (DA hx))
 have U:(cur.toList.take (n * i.size)++(cur.toList.drop (j * i.size)).take (c * i.size)).length=n * i.size+c * i.size:=by
  rw [A0,E,Bs,Z5];omega
 rcases RL c with h0|h0
 . subst h0
   have f:(Builtin.append_ #[t,t] ty #[.slice (some ⟨b,0,none⟩) n cap,.slice (some ⟨b,ob,none⟩) 0 (k - j)]).run P w= .ok (.slice (some ⟨b,0,none⟩) (n+0) cap) w:=by
    have hr:=run_append_room (P:=P) w t ty m i ht hi b n cap cur d ⟨b,ob,none⟩ 0 (k - j) [] (by simp) (by simp) (by simp) (by omega) (by simp;omega);rw [hr];congr 1;simp only [Aw,A8,CC,Am,Array.toArray_toList];exact setRow_self w b cur m _ d
   have hw:w.setRow b cur=w:=setRow_self w b cur m _ d
   have Q:=h.row (cs':=cs.take (n * i.size)++(cs.drop (j * i.size)).take (0 * i.size)) hb S d (new:=cur) rfl (by grind) (by
    grind) o
   rw [hw] at Q;exact ⟨_,g,w,_,_,f,Gh.le_refl g,Q.2,.ms S B (by omega) Z,Q.1,hk⟩
 . have h2:=ha (by omega);subst h2;have f:=run_append_room (P:=P) w t ty m i ht hi b n cap cur d ⟨b,j * i.size,none⟩ c (k - j) _ E u h3 l (by grind);rw [E] at f
   have D:(cur.toList.take (n * i.size)++(cur.toList.drop (j * i.size)).take (c * i.size)++cur.toList.drop (n * i.size+c * i.size)).toArray.size=cur.size:=by
    rw [Tl,A0,U,OU,Z5];omega
   have Q:=h.row hb S d D (cs':=cs.take (n * i.size)++(cs.drop (j * i.size)).take (c * i.size)) (by grind) (by
    rw [hc];show VRs g _ (Ew _ (_++_++_));rw [<- U,List.take_left];exact h1.append hg) o
   exact ⟨_,g,_,_,_,f,Gh.le_refl g,Q.2,.ms S B l Z,Q.1,hk⟩
end
section
variable {P:Program} {base N:Nat} {g g':Gh} {Pr:Nat->Prop} {A H:X} {w0 w w':World} {lam:Nat->Option Nat} {F:Fm} {L:Lm} {a:Act}
def ASV (b:SV g lam q qvl) (a:q.rows=some srows):RD g.im (.sl srows) qvl:=by
 cases q with
 |d x=>cases x<;>simp only [I.rows,AP] at a<;>try (cases a;done)
       subst a;cases b with|d h=>exact h
 |Ac=>simp only [I.rows,AP] at a;subst a;cases b;exact .nil (D7 _) (fun _=>rfl)
 |own _ _ _ _=>simp only [I.rows,AP] at a;subst a;cases b with|own h _ _=>exact h
 |clip _=>simp only [I.rows,AP] at a;subst a;cases b with|clip h=>exact h
 |_=>cases a
def AMY (h:Bu base g lam Pr N F L A a w0 w) (cells:Array Value) (e:TypeId) (n:Nat):
 g.le (g.settle w.heap.size n cells)/\KP Pr w (w.drew.alloc (.cells cells e))/\Bu base (g.settle w.heap.size n cells) lam Pr N F L A a w0 (w.drew.alloc (.cells cells e)):=by
 have c:∀b,b < w.heap.size->(w.drew.alloc (.cells cells e)).heap[b]?=w.heap[b]?:=fun b d=>heap_alloc_old w.drew _ b d;have i:Below base w (w.drew.alloc (.cells cells e)):=⟨rfl,rfl,rfl,by simp,fun k p=>c k (by have:=h.rel.bs;omega)⟩;have f:=h.rel.grow (w':=w.drew.alloc (.cells cells e)) (Pr':=fun b=>Pr b\/∃k,lam k=some b) (by simp) (fun b d _=>c b d) i (fun b d=>⟨by have:=(h.rel.pr b d).1;simp;omega,.inl d⟩)
 have l:=h.rel.settle (n:=n) (vs:=cells) (b:=w.heap.size) (AW _) f (fun o=>by
  rw [World.cell?_of_block (w:=w.alloc (.cells cells e)) (show (w.drew.alloc (.cells cells e)).heap[w.heap.size]?=(w.alloc (.cells cells e)).heap[w.heap.size]? from rfl)];simp)
 have j:=h.rel.Yx w.heap.size n cells (AW _);exact ⟨j,⟨by simp,fun b m=>c b (h.rel.pr b (.inl m)).1⟩,h.step j (fun k b d=>c b (h.Lv d)) l⟩
def AHA {t:TypeId} (ht:P.underlying t=some (.slice e)) (hi:P.info? e=some i) (hz:i.zero=some z) (ns:z.cells.size=i.size)
 (h:Bu base g lam Pr N F L A a w0 w) {rows:List (List DV)} (hp:SV g lam (.clip rows) pvl) (hq:SV g lam q qvl) (hk:q.rows=some srows)
 (h4:∀r∈rows,r.length=i.size) (hl:∀r∈srows,r.length=i.size) (S:rows.length+srows.length<=maxLen) (h6:(rows.length+srows.length) * i.bytes<=140737488355328):
 ∃x g' w',(Builtin.append_ #[t,t] ty #[pvl,qvl]).run P w= .ok x w'/\g.le g'/\KP Pr w w'/\VR g' (.d (.sl (rows++srows))) x/\Bu base g' lam Pr N F L A a w0 w':=by
 have s:=ASV hq hk;have h3:VR g (.clip rows) pvl:=hp;generalize h7:I.clip rows=cl at h3;cases h3<;>cases h7;rename_i y n f;obtain ⟨hs,hm,m,_⟩:=f.NM;have hn:n=rows.length:=by simp only [Value.slice.injEq] at m;exact m.2.1
 subst hn;by_cases h0:srows=[]
 . subst h0;obtain ⟨l,d,rfl,_⟩:=s.NM
   have k:(Builtin.append_ #[t,t] ty #[.slice y rows.length rows.length,.slice l 0 d]).run P w= .ok (.slice y rows.length rows.length) w:=by
    have h9:∀sz,(Builtin.firstCells sz 0 (.slice l 0 d)).run P w= .ok #[] w:=fun sz=>by
     cases l<;>simp [Builtin.firstCells,loadCells,loadCellsFrom]
    cases y<;>simp [Builtin.append_,run_underlying ht,sizeOf,typeInfo,hi,Builtin.lenOf,h9,storeCells]
   exact ⟨_,g,w,k,Gh.le_refl g,KP.refl Pr w,.d (by grind),h⟩
 . have p:0 < srows.length:=Ds.2 h0;obtain ⟨l,d,rfl,_⟩:=s.NM
   obtain ⟨b,off,rfl⟩:∃b off,l=some ⟨b,off,none⟩:=by
    generalize Q:(Value.slice l srows.length d)=vv at s;cases s with
    |nil=>simp at p
    |sl=>grind
   obtain ⟨news,E,_,he,hg⟩:=RD.cellsOf hl s p;have o:∀j u,news[j]?=some u->w.cell? ((⟨b,off,none⟩:Addr).add j)=some u:=fun j u hu=>by rw [Addr.add_lit];exact h.rel.im _ _ _ (he j u hu)
   have T:((rows.length+srows.length:Nat):Int)<=9223372036854775807:=by simp only [maxLen] at S;omega
   obtain ⟨c,cap,B,G,k,hy,h8⟩:∃(c:List Value) (cap:Nat),c.length=rows.length * i.size/\(∀(j:Nat) (x:DV),rows.flatten[j]?=some x->∃v,c[j]?=some v/\RD g.im x v)/\
    (Builtin.append_ #[t,t] ty #[.slice y rows.length rows.length,.slice (some ⟨b,off,none⟩) srows.length d]).run P w=
      .ok (.slice (some ⟨w.heap.size,0,none⟩) (rows.length+srows.length) cap) (w.drew.alloc (.cells (c.toArray++news.toArray++Builtin.zeroCells z.cells (cap - (rows.length+srows.length))) e))/\
    rows.length+srows.length<=cap/\cap<=maxLen:=by
    cases y with
    |none=>
     have K:rows=[]:=by
      generalize Q:(Value.slice none rows.length rows.length)=vv at f;cases f with
      |nil=>rfl
      |sl=>cases Q
     subst K;have hr:=run_append_nil (P:=P) w t ty e i z ht hi hz ⟨b,off,none⟩ srows.length d news E o p (by grind) (by grind)
     grind [grownCap_ge,grownCap_le_maxLen]
    |some y=>
     have hc:=fun c R h2=>run_append_grow (P:=P) w t ty e i z ht hi hz y rows.length rows.length c R h2 ⟨b,off,none⟩ srows.length d news E o (by omega) T (growslice_fits (by omega) h6);have hb:=grownCap_ge w (rows.length+srows.length) rows.length e;have hd:=grownCap_le_maxLen w (rows.length+srows.length) rows.length e S;by_cases K:rows=[]
     . grind
     . obtain ⟨b2,ho,rfl⟩:∃b off,y=⟨b,off,none⟩:=by
        generalize Q:(Value.slice (some y) rows.length rows.length)=vv at f;cases f with
        |nil=>grind
        |sl=>grind
       obtain ⟨c,B,_,hj,G⟩:=RD.cellsOf h4 f (Ds.2 K);exact ⟨c,_,B,G,hc c B (fun j u hu=>by rw [Addr.add_lit];exact h.rel.im _ _ _ (hj j u hu)),hb,hd⟩
   generalize h5:c.toArray++news.toArray++Builtin.zeroCells z.cells (cap - (rows.length+srows.length))=cells at k;obtain ⟨D,ha,hf⟩:=AMY h cells e (c.length+news.length);refine ⟨_,_,_,k,D,ha,?_,hf⟩
   have U:∀r∈rows++srows,r.length=i.size:=fun r hr=>by
    grind
   have Z:(c++news).length=(rows++srows).length * i.size:=by rw [A0,A0,B,E,Cj]
   have:=RD.AIP (im:=(g.settle w.heap.size (c.length+news.length) cells).im) (rows:=rows++srows) (size:=i.size) (b:=w.heap.size) (off:=0) (cap:=cap) (ys:=c++news)
    U (by grind) h8 Z (fun j u hu=>by
     have Y:=(AG.1 hu).1;rw [A0] at Y;simp only [Gh.settle,if_true,Av,if_pos Y]
     grind) (fun j x hx=>by
     rw [Js] at hx;have ks:=GG rows h4;rcases Ff j rows.flatten.length with R|R
     . rw [Di R] at hx;obtain ⟨v,hv,f⟩:=G j x hx;exact ⟨v,by grind,f.mono D.im⟩
     . rw [BY R] at hx;obtain ⟨v,hv,f⟩:=hg _ x hx;refine ⟨v,?_,f.mono D.im⟩
       grind)
   exact .d (by grind)
end
section
variable {P:Program} {base N:Nat} {g g':Gh} {Pr:Nat->Prop} {A H:X} {w0 w w':World} {lam:Nat->Option Nat} {F:Fm} {L:Lm} {a:Act}
def Gh.bK (g:Gh) (t b:Nat) (es:MEs):Gh:= { g with tau:=fun s=>if s=t then some (vA b es,0,0) else g.tau s}
def Gh.AA9 {t:Nat} (h:g.tau t=none):g.le (g.bK t b es):=
 ⟨fun _ _ _ h=>h,fun _ _ h=>h,fun s x a=>by
   simp only [Gh.bK];grind,fun _ _ h=>h⟩
theorem jO (b:Nat) (es:MEs):YU (vA b es)=some b:=by unfold YU;rw [dE]
theorem Rel.bK (h:Rel base g Pr A w0 w) {t b clock:Nat} {es:MEs} {ents:Array MapEntry} (ht:g.tau t=none) (hb:base<=b)
 (L:∀o,g.im b o=none) (N:¬Pr b) (y:∀i,A.C i≠none->g.mu i≠some b) (Q:∀t2 B D G,A.tok t2=true->g.tau t2=some (B,D,G)->YU B≠some b)
 (z:w.heap.size<=w'.heap.size) (j:∀k,k < w.heap.size->k≠b->w'.heap[k]?=w.heap[k]?) (r:Below base w w') (hw:w'.heap[b]?=some (.map ents clock)) (he:Vl es ents):
 Rel base (g.bK t b es) Pr (A.BV t) w0 w':=by
 have s:=Gh.AA9 (b:=b) (es:=es) ht;refine ⟨fun a o u F=>?_,fun i cs E=>?_,h.inj,fun t2 p=>?_,fun a U=>⟨Be (h.pr a U).1 z,(h.pr a U).2⟩,h.bel.trans r,Ai h.bs z,?_,h.st.mono s rfl rfl⟩
 . have F:g.im a o=some u:=F;have d:a≠b:=fun e=>by grind
   rw [World.cell?_of_block (w:=w) (j a (h.WT F) d)];exact h.im a o u F
 . have E:A.C i=some cs:=E;obtain ⟨a,T,x⟩:=h.shr i cs E;obtain ⟨vs,ty,hv,Y,P,Z⟩:=x.row;have d:a≠b:=fun e=>y i (by grind) (by rw [T,e]);exact ⟨a,T,x.ok,⟨vs,ty,by grind,Y,P,Z.mono s⟩,x.low,x.im,x.pr⟩
 . by_cases e:t2=t
   . subst e;refine ⟨vA b es,0,0,0,[],by simp [Gh.bK],?_,fun a c=>?_⟩
     . grind [WW,dE]
     . rw [jO] at c;cases c;refine ⟨fun o _=>L o,N,y,fun t3 v3 K s3 d q l=>?_⟩;simp only [X.BV,if_neg d] at q;simp only [Gh.bK,if_neg d] at l
       grind
   . simp only [X.BV,if_neg e] at p;obtain ⟨B,D,G,n2,R,v,f,n⟩:=(h.tok t2 p).row;refine ⟨B,D,G,n2,R,by simp [Gh.bK,e,v],Qf f fun a c=>j a (f.lt a c).2 (fun K=>Q t2 B D G p v (by rw [c,K])),fun a c=>?_⟩;obtain ⟨k1,k2,k3,k4⟩:=n a c;refine ⟨k1,k2,k3,fun t3 v3 K s3 d q l=>?_⟩;by_cases m:t3=t
     . subst m;simp only [Gh.bK,if_true] at l;grind [jO]
     . simp only [X.BV,if_neg m] at q;simp only [Gh.bK,if_neg m] at l
       grind
 . obtain ⟨k,S⟩:=h.fin;refine ⟨max k (t+1),fun i E=>⟨(S i (by omega)).1,?_,(S i (by omega)).2.2⟩⟩
   grind [Gh.bK]
def ANK (h:Bu base g lam Pr N F L A a w0 w) (z:∀t,A.tok t=false->R (.om t []) (A.BV t)):
 K3 P (Instr.makeMap mt none) base g lam Pr N F L a w0 w R:=by
 obtain ⟨t,_,c,_,l⟩:=h.rel.fresh;have e:=Gh.AA9 (b:=w.heap.size) (es:=[]) c
 have j:=h.rel.bK (w':=w.alloc (.map #[] 0)) (b:=w.heap.size) (es:=[]) (ents:=#[]) (clock:=0) c h.rel.bs
  (fun o=>by
    cases n:g.im w.heap.size o with
    |none=>rfl
    |some v=>have:=h.rel.WT n;omega)
  (fun y=>by have:=(h.rel.pr _ y).1;omega)
  (fun i n x=>by
    cases s:A.C i with
    |none=>exact n s
    |some cs=>have:=h.rel.bS s x;omega)
  (fun t2 S D K q p r=>by
    obtain ⟨T,E,Q,G,B,f,d,_⟩:=(h.rel.tok t2 q).row;rw [p] at f;cases f;have:=(d.lt _ r).2;omega)
  (by simp) (fun k u _=>heap_alloc_old w _ k u) (XS h.rel.bs) (heap_alloc_new w _) rfl
 exact ⟨.map (some w.heap.size),g.bK t w.heap.size [],w.alloc (.map #[] 0),.om t [],A.BV t,rfl,e,⟨by simp,fun b m=>heap_alloc_old w _ b (h.rel.pr b (.inl m)).1⟩,
  .om (by simp [Gh.bK]),h.step e (fun k b m=>heap_alloc_old w _ b (h.Lv m)) j,z t l⟩
def ABH (h:Bu base g lam Pr N F L A a w0 w) {t:Nat} (p:VR g (.om t es) v) (n:A.tok t=true):
 ∃b ents clock,v= .map (some b)/\g.tau t=some (vA b es,0,0)/\w.heap[b]?=some (.map ents clock)/\Vl es ents/\base<=b/\
  (∀o,g.im b o=none)/\¬(Pr b\/∃k,lam k=some b)/\(∀i,A.C i≠none->g.mu i≠some b)/\(∀t2 j l m,t2≠t->A.tok t2=true->g.tau t2=some (j,l,m)->YU j≠some b):=by
 cases p with
 |@om _ b _ f=>
  obtain ⟨j,l,m,x,q,e,c,d⟩:=(h.rel.tok t n).row;rw [f] at e;cases e;obtain ⟨k1,r,s,u⟩:=d b (jO b es);unfold WW at c;rw [dE] at c
  grind
def AA8 {ents:Array MapEntry} (h:Vl es ents):ents.size=es.length:=by
 have:=congrArg List.length h
 grind
def AII (d:P.underlying mt=some (.map k e)) (h:Bu base g lam Pr N F L A a w0 w) {t:Nat} (j:VR g (.om t es) v) (i:A.tok t=true) (m:es.length<=1000000000)
 (f:R (.d (.int .i64 es.length)) A):K3 P (Builtin.len_ #[mt] ty #[v]) base g lam Pr N F L a w0 w R:=by
 obtain ⟨b,ents,clock,rfl,_,l,c,_⟩:=ABH h j i;refine ⟨goInt es.length,g,w,_,A,?_,Gh.le_refl g,KP.refl Pr w,.d (.int ?_),h,f⟩
 . simp [Builtin.len_,run_underlying d,MapKept.run_getObj_map l,AA8 c]
 grind [IntKind.has,IntKind.min,IntKind.max,IntKind.signed,IntKind.bits]
def Xh (b:IntKind) (k:Int):∀(l:List MapEntry) (es:List (Int×Int)) (i:Nat),l.map (fun m=>(m.key,m.val))=(mI es).map V0->
 (es.lookup k=none/\Instr.findNow (.int b) (.int .i64 k) l i=some none)\/∃v j,es.lookup k=some v/\Instr.findNow (.int b) (.int .i64 k) l i=some (some (j,.int .i64 v))
 |[],[],i,_=>.inl ⟨rfl,rfl⟩
 |[],_::_,i,h=>by simp [mI] at h
 |_::_,[],i,h=>by simp [mI] at h
 |m::l,p::es,i,h=>by
  simp only [mI,V0,kV,AB,FJ,B3] at h;obtain ⟨⟨d,n⟩,f⟩:=h;by_cases e:k=p.1
  . grind [List.lookup,Instr.findNow,Instr.sameNow]
  . have c:(k==p.1)=false:=by simpa using e
    rcases Xh b k l es (i+1) f with ⟨g,a⟩|⟨v,j,g,a⟩
    . refine .inl ⟨by grind,?_⟩;simp only [Instr.findNow,d,Instr.sameNow,if_true,c,a]
    . refine .inr ⟨v,j,by grind,?_⟩;simp only [Instr.findNow,d,Instr.sameNow,if_true,c,a]
theorem AID (D:P.underlying mt=some (.map k e)) (q:P.underlying k=some (.int .i64)) (Q:P.info? e=some i) (U:i.zero=some (.int .i64 0))
 (h:Bu base g lam Pr N F L A a w0 w) {t:Nat} {es:List (Int×Int)} {n:Int} (T:VR g (.om t (mI es)) v) (B:VR g (.d (.int .i64 n)) u) (S:A.tok t=true)
 (r:∃x,(0<=x/\x<=1000000000)/\es.lookup n=some x/\R (.tup [.d (.int .i64 x),.d (.bool true)]) A\/es.lookup n=none/\R (.tup [.d (.int .i64 0),.d (.bool false)]) A):
 K3 P (Instr.lookup mt v u true) base g lam Pr N F L a w0 w R:=by
 obtain ⟨b,ents,clock,rfl,_,E,K,_⟩:=ABH h T S;cases B with|d B=>cases B with|int Y=>
 have m:MapKept.IsKey (.int .i64) (.int .i64 n):=by first|rfl|trivial|exact ⟨_,rfl⟩
 have o:∀(x:Int) (c:Bool),(0<=x/\x<=1000000000)->VR g (.tup [.d (.int .i64 x),.d (.bool c)]) (.tuple #[.int .i64 x,.bool c]):=fun x c G=>
  .tup (vs:=[.int .i64 x,.bool c]) rfl (fun j y z f l=>by
   match j with
   |0=>simp at f l;subst f;subst l;exact .d (.int (by grind [IntKind.has,IntKind.min,IntKind.max,IntKind.signed,IntKind.bits]))
   |1=>simp at f l;subst f;subst l;exact .d .bool
   |j+2=>simp at f)
 obtain ⟨x,r⟩:=r;rcases Xh .i64 n ents.toList es 0 K with ⟨f,l⟩|⟨y,j,f,l⟩
 . rcases r with ⟨_,p,_⟩|⟨_,s⟩
   . grind
   refine ⟨.tuple #[.int .i64 0,.bool false],g,w,_,A,?_,Gh.le_refl g,KP.refl Pr w,o 0 false (by omega),h,s⟩;simp [Instr.lookup,run_underlying D,MapKept.run_getObj_map E,MapKept.run_checkKey q m,MapKept.run_findKey q l,zeroValue,typeInfo,Q,U]
 . rcases r with ⟨G,p,s⟩|⟨p,_⟩
   . rw [f] at p;cases p;refine ⟨.tuple #[.int .i64 x,.bool true],g,w,_,A,?_,Gh.le_refl g,KP.refl Pr w,o x true G,h,s⟩;simp [Instr.lookup,run_underlying D,MapKept.run_getObj_map E,MapKept.run_checkKey q m,MapKept.run_findKey q l]
   grind
theorem bG (h:rS P e=true):P.underlying e=some (.int .i64):=by
 grind [rS]
def AOZ (h:AXO P e=true):∃i,P.info? e=some i/\i.zero=some (.int .i64 0):=by
 grind [AXO]
def AE4 (m:P.underlying mt=some (.map k e)) (l:rS P k=true) (d:AXO P e=true) (h:Bu base g lam Pr N F L A a w0 w) (s:VR g p v) (r:VR g q u)
 (b:ExR A R .ANJ [p,q]):K3 P (Instr.lookup mt v u true) base g lam Pr N F L a w0 w R:=by
 cases p<;>try (exact (show False from b).elim)
 cases q<;>try (exact (show False from b).elim)
 rename_i y;cases y<;>try (exact (show False from b).elim)
 rename_i f n;cases f<;>try (exact (show False from b).elim)
 obtain ⟨i,j,t⟩:=AOZ d;obtain ⟨o,c,rfl,b⟩:=b
 grind [AID,bG]
def AE5 (c:P.underlying mt=some (.map k e)) (h:Bu base g lam Pr N F L A a w0 w) (d:VR g p v)
 (b:ExR A R .AIH [p]):K3 P (Builtin.len_ #[mt] ty #[v]) base g lam Pr N F L a w0 w R:=by
 cases p<;>try (exact (show False from b).elim)
 exact AII c h d b.1.1 b.1.2 b.2
def reA (t:Nat) (x:I):I->I
 | .om s es=>if s=t then x else .om s es
 |v=>v
def reF (t:Nat) (x:I) (F:Fm):Fm:=fun s=>reA t x (F s)
def yQ (h:Bu base g lam Pr N F L A a w0 w) {t:Nat} {p:MK×Int} (hv:VR g (.om t es) v) (ht:A.tok t=true)
 (hr:∀b ents clock,w.heap[b]?=some (.map ents clock)->Vl es ents->(Instr.mapUpdate mt (.map (some b)) (V0 p).1 (V0 p).2).run P w= .ok () { w with heap:=w.heap.setIfInBounds b (.map (ents.push ⟨(V0 p).1,(V0 p).2,clock⟩) (clock+1))}):
 ∃g' w' t',(Instr.mapUpdate mt v (V0 p).1 (V0 p).2).run P w= .ok () w'/\g.le g'/\KP Pr w w'/\A.tok t'=false/\Bu base g' lam Pr N (reF t (.om t' (es++[p])) F) L ((A.Bh t).BV t') a w0 w':=by
 obtain ⟨b,ents,clock,rfl,htau,hw,he,hb,him,hpr,hsh,htk⟩:=ABH h hv ht;obtain ⟨t',_,htau',_,htok'⟩:=h.rel.fresh;obtain ⟨hs1,hs2⟩:=MapKept.heap_set (o':= .map (ents.push ⟨(V0 p).1,(V0 p).2,clock⟩) (clock+1)) hw;have hrun:=hr b ents clock hw he;generalize hw':({ w with heap:=w.heap.setIfInBounds b (.map (ents.push ⟨(V0 p).1,(V0 p).2,clock⟩) (clock+1))}:World)=w' at hrun;have hh:w'.heap=w.heap.setIfInBounds b (.map (ents.push ⟨(V0 p).1,(V0 p).2,clock⟩) (clock+1)):=by rw [<- hw']
 have hle:=Gh.AA9 (b:=b) (es:=es++[p]) htau';have hsz:w'.heap.size=w.heap.size:=by rw [hh];simp
 have hold:∀c,c≠b->w'.heap[c]?=w.heap[c]?:=fun c hc=>by grind
 have hbel:Below base w w':=by
  subst hw';exact ⟨rfl,rfl,rfl,by simp,fun c hc=>by grind⟩
 have hrel:=(h.rel.less (X.Yk A t)).bK (w':=w') (b:=b) (es:=es++[p]) htau' hb him hpr hsh
  (fun t2 v2 e2 s2 ht2 hm2=>by
    have hne:t2≠t:=fun e=>by subst e;simp [X.Bh] at ht2
    simp only [X.Bh,if_neg hne] at ht2
    grind) (by omega) (fun c _ hc=>hold c hc) hbel (by rw [hh];exact hs1) (by
    unfold Vl at he ⊢;simp [he])
 have hf:=h.step hle (fun c b2 hb2=>hold b2 (fun e=>hpr (.inr ⟨c,by rw [hb2,e]⟩))) hrel;refine ⟨_,w',t',hrun,hle,⟨by omega,fun c hc=>hold c (fun e=>hpr (.inl (by grind)))⟩,htok',⟨fun s=>?_,hf.sz,hf.df,hf.loc,hf.inj,hf.npr,hf.rel⟩⟩;have h1:=hf.tm s;generalize a.tmps.getD s DJ=val at h1 ⊢;unfold reF;cases hF:F s with
 |om s2 es2=>
  rw [hF] at h1;simp only [reA];split
  . rename_i e;subst e;have h1:VR _ (.om s2 es2) val:=h1;cases h1 with
    |@om _ b2 _ h3=>
     have h4:=hle.tau _ _ htau;rw [h3] at h4;have h5:vA b2 es2=vA b es:=by simpa using h4
     obtain ⟨rfl,_⟩:=AQC h5;exact .om (by simp [Gh.bK])
  . exact h1
 |_=>rw [hF] at h1;exact h1
theorem AIJ (hm:P.underlying mt=some (.map k e)) (hk:P.underlying k=some (.int .i64))
 (h:Bu base g lam Pr N F L A a w0 w) {t:Nat} {es:List (Int×Int)} {n x:Int} (hv:VR g (.om t (mI es)) v) (hu:VR g (.d (.int .i64 n)) u) (hz:VR g (.d (.int .i64 x)) z) (ht:A.tok t=true) (hno:es.lookup n=none):
 ∃g' w' t',(Instr.mapUpdate mt v u z).run P w= .ok () w'/\g.le g'/\KP Pr w w'/\A.tok t'=false/\Bu base g' lam Pr N (reF t (.om t' (mI (es++[(n,x)]))) F) L ((A.Bh t).BV t') a w0 w':=by
 cases hu with|d hu=>cases hu with|int hn=>
 cases hz with|d hz=>cases hz with|int hx=>
 have hkey:MapKept.IsKey (.int .i64) (.int .i64 n):=by first|rfl|trivial|exact ⟨_,rfl⟩
 rw [show mI (es++[(n,x)])=mI es++[(.inl n,x)] from by simp [mI]];refine yQ (mt:=mt) (p:=(.inl n,x)) h hv ht fun b ents clock hw he=>?_;rcases Xh .i64 n ents.toList es 0 he with ⟨_,h2⟩|⟨y,j,h1,_⟩
 case inr=>grind
 simp [V0,kV,Instr.mapUpdate,run_underlying hm,MapKept.run_getObj_map hw,MapKept.run_checkKey hk hkey,MapKept.run_findKey hk h2,MapKept.run_setObj_map _ hw,Result.andThen]
def YL (h:NH P k=true):∃f g,P.underlying k=some (.struct #[f,g])/\f.name≠ "_"/\g.name≠ "_"/\f.offset=0/\g.offset=1/\P.underlying f.type=some (.int .i64)/\P.underlying g.type=some .string/\P.stoodInHeld k=false:=by
 unfold NH at h;split at h
 . rename_i fs n;rw [AM] at h;obtain ⟨a,m⟩:=h;split at a
   . rename_i f g b;simp only [AM,bne_iff_ne,beq_iff_eq] at a;obtain ⟨⟨⟨⟨⟨a1,c⟩,d⟩,e⟩,i⟩,j⟩:=a;obtain ⟨l⟩:=fs
     grind [bG]
   . cases a
 . cases h
abbrev prV (n:Int) (s:List UInt8):Value:= .agg #[.int .i64 n,.string ⟨⟨s⟩⟩]
def AV3 (t:NH P k=true) (w:World) (n m:Int) (a b:List UInt8):(Op.equal k (prV n a) (prV m b)).run P w= .ok (n==m&&a==b) w:=by
 obtain ⟨f,g,u,o,p,q,r,i,j,s⟩:=YL t;have h:P.fieldsOf k=#[f,g]:=by unfold Program.fieldsOf;rw [u]
 have e:=run_equalIn_struct (P:=P) w 9999 k #[.int .i64 n,.string ⟨⟨a⟩⟩] #[.int .i64 m,.string ⟨⟨b⟩⟩] (by grind) s;have c:(isAgg f.type).run P w= .ok false w:=by simp [isAgg,B7 i]
 have d:(isAgg g.type).run P w= .ok false w:=by simp [isAgg,B7 j]
 have l:((⟨⟨a⟩⟩:ByteArray).toList==(⟨⟨b⟩⟩:ByteArray).toList)=(a==b):=by rw [ByteArray.toList_eq,ByteArray.toList_eq]
 have v:(Op.equalIn 9999 f.type (.int .i64 n) (.int .i64 m)).run P w= .ok (n==m) w:=run_equalIn_int w 9998 f.type .i64 .i64 n m i;have x:(Op.equalIn 9999 g.type (.string ⟨⟨a⟩⟩) (.string ⟨⟨b⟩⟩)).run P w= .ok (a==b) w:=by rw [<- l];exact run_equalIn_string w 9998 g.type _ _ j
 show (Op.equalIn (9999+1) k _ _).run P w=_;rw [e,h];simp only [Op.eqFields,o,p,ne_eq,not_false_eq_true,if_true,part,Sem.run_bind,c,Result.andThen_ok,As,if_false,q,r,Sem.run_pure,List.getElem?_toArray,A7,v];cases (n==m)
 . simp
 . simp only [Bool.not_true,As,if_false,Sem.run_bind,d,Result.andThen_ok,Sem.run_pure,Bz,A7,x,Fe];cases (a==b)<;>simp
def sN (p:NH P k=true) (w:World) (n:Int) (a:List UInt8) (e:Bool):(Instr.checkKey e 10000 k (prV n a)).run P w= .ok () w:=by
 obtain ⟨f,g,q,j,l,m,o,d,h,r⟩:=YL p;have b:(isAgg f.type).run P w= .ok false w:=by simp [isAgg,B7 d]
 have c:(isAgg g.type).run P w= .ok false w:=by simp [isAgg,B7 h]
 have i:=MapKept.run_checkKey (P:=P) (w:=w) (k:= .int .i64 n) d rfl e 9998;have c2:=MapKept.run_checkKey (P:=P) (w:=w) (k:= .string ⟨⟨a⟩⟩) h trivial e 9998;rw [Instr.checkKey];simp only [Sem.run_bind,run_underlying q,Result.andThen_ok];simp [j,l,m,o,part,b,c,i,c2]
def yX {k:TypeId} (c:NH P k=true) (w:World) (n:Int) (a:List UInt8):∀(l:List MapEntry) (ks:List (Int×List UInt8)) (i:Nat),l.map (fun m=>(m.key,m.val))=(mK ks).map V0->
 (ks.contains (n,a)=false/\(Instr.findAsking k (prV n a) l i).run P w= .ok none w)\/∃j,ks.contains (n,a)=true/\(Instr.findAsking k (prV n a) l i).run P w= .ok (some (j,.bool true)) w
 |[],[],i,_=>.inl ⟨rfl,rfl⟩
 |[],_::_,i,h=>by simp [mK] at h
 |_::_,[],i,h=>by simp [mK] at h
 |m::l,(q,b)::ks,i,h=>by
  simp only [mK,V0,kV,AB,FJ,B3] at h;obtain ⟨⟨d,o⟩,e⟩:=h;have g:=AV3 c w n q a b;have f:((n,a)==(q,b))=(n==q&&a==b):=rfl;rw [Instr.findAsking];simp only [Sem.run_bind,d,g,Result.andThen_ok,RH,f];cases p:(n==q&&a==b)
  . simp only [As,if_false,MP];exact yX c w n a l ks (i+1) e
  simp_all
def eP (b:NH P k=true) {n:Int} {a:List UInt8} {ents:Array MapEntry} {ks:List (Int×List UInt8)} (c:Vl (mK ks) ents):
 (ks.contains (n,a)=false/\(Instr.findKey k (prV n a) ents.toList).run P w= .ok none w)\/∃j,ks.contains (n,a)=true/\(Instr.findKey k (prV n a) ents.toList).run P w= .ok (some (j,.bool true)) w:=by
 have e:=yX b w n a ents.toList ks 0 c;obtain ⟨f,g,h,_⟩:=YL b;unfold Instr.findKey;simp only [Sem.run_bind,run_underlying h,Result.andThen_ok];cases d:ents.toList with
 |nil=>
  grind [Instr.findNow,Instr.findAsking]
 |cons m l=>
  rw [d] at e
  have i:Instr.findNow (.struct #[f,g]) (prV n a) (m::l) 0=none:=by
   unfold Instr.findNow Instr.sameNow;rfl
  grind
def VR.pair {n:Int} (h:VR g (.agg [.d (.int .i64 n),.d (.str s)]) u):u=prV n s:=by
 cases h with
 |@agg _ vs c e h=>
  match vs,c with
  |[x,y],_=>
   have a:=h 0 _ _ rfl rfl;have b:=h 1 _ _ rfl rfl;cases a with|d a=>
   cases a;cases b with|d b=>
   cases b;rfl
def AR0 (a:ExR A R .ABB [p,q]):∃t ks n s,p= .om t (mK ks)/\q= .agg [.d (.int .i64 n),.d (.str s)]/\A.tok t=true/\R (.d (.bool (ks.contains (n,s)))) A:=by
 unfold ExR at a
 grind
def AIE (hm:P.underlying mt=some (.map k e)) (hk:NH P k=true) (hz:zB P e=true) (h:Bu base g lam Pr N F L A a w0 w) (hv:VR g p v) (hu:VR g q u)
 (hr:ExR A R .ABB [p,q]):K3 P (Instr.lookup mt v u false) base g lam Pr N F L a w0 w R:=by
 obtain ⟨t,ks,n,s,rfl,rfl,ht,hR⟩:=AR0 hr;obtain rfl:=hu.pair;obtain ⟨b,ents,clock,rfl,_,hw,he,_⟩:=ABH h hv ht;unfold zB at hz;split at hz
 case h_2=>cases hz
 rename_i ie hie;split at hz
 case h_2=>cases hz
 rename_i hzz;refine ⟨.bool (ks.contains (n,s)),g,w,_,A,?_,Gh.le_refl g,KP.refl Pr w,.d .bool,h,hR⟩;rcases eP (w:=w) (n:=n) (a:=s) hk he with ⟨h1,h2⟩|⟨j,h1,h2⟩
 . rw [h1];simp [Instr.lookup,run_underlying hm,MapKept.run_getObj_map hw,sN hk w,h2,zeroValue,typeInfo,hie,hzz]
 . rw [h1];simp [Instr.lookup,run_underlying hm,MapKept.run_getObj_map hw,sN hk w,h2]
theorem ANL (hm:P.underlying mt=some (.map k e)) (hk:NH P k=true)
 (h:Bu base g lam Pr N F L A a w0 w) {t:Nat} {ks:List (Int×List UInt8)} {n:Int} {x:List UInt8} (hv:VR g (.om t (mK ks)) v) (hu:VR g (.agg [.d (.int .i64 n),.d (.str x)]) u) (hz:VR g (.d (.bool true)) z) (ht:A.tok t=true) (hno:(n,x) ∉ ks):
 ∃g' w' t',(Instr.mapUpdate mt v u z).run P w= .ok () w'/\g.le g'/\KP Pr w w'/\A.tok t'=false/\Bu base g' lam Pr N (reF t (.om t' (mK (ks++[(n,x)]))) F) L ((A.Bh t).BV t') a w0 w':=by
 obtain rfl:=hu.pair;cases hz with|d hz=>
 cases hz;rw [show mK (ks++[(n,x)])=mK ks++[(.inr (n,x),1)] from by simp [mK]];refine yQ (mt:=mt) (p:=(.inr (n,x),1)) h hv ht fun b ents clock hw he=>?_;rcases eP (w:=w) (n:=n) (a:=x) hk he with ⟨_,h2⟩|⟨j,h1,_⟩
 case inr=>grind
 simp [V0,kV,Instr.mapUpdate,run_underlying hm,MapKept.run_getObj_map hw,sN hk w,h2,MapKept.run_setObj_map _ hw,Result.andThen]
end
section
variable {P:Program} {base N:Nat} {g g':Gh} {Pr:Nat->Prop} {A H:X} {w0 w w':World} {lam:Nat->Option Nat} {F:Fm} {L:Lm} {a:Act}
abbrev CV:=Fm->Lm->X->Prop
def CP (P:Program) (f:FuncId):Bool:=((P.funcs[f]?).bind (·.body)).isSome&&((P.funcs[f]?).map (·.name)) != some "runtime.NumGoroutine"
def AN (P:Program) (f:FuncId) (args:List I) (dst:Option Nat) (K:CV) (F:Fm) (L:Lm) (A:X):Prop:=
 args.all I.BS=true/\∃Q,AS P f args A Q/\∀v H,Q v H->K (BW dst v F) L H
def APA (P:Program) (f:FuncId) (args:List I) (dst:Option Nat) (K:CV) (F:Fm) (L:Lm) (A:X):Prop:=
 args.all I.BS=true/\∃v,(v.BS=true/\AS P f args A (fun v' H=>v'=v/\H=A))/\K (BW dst v F) L A
def DH (e size bytes:Nat) (s x:I) (dst:Option Nat) (K:CV) (F:Fm) (L:Lm) (A:X):Prop:=
 (∃rows σ1 srows,MT A e size s=some (rows,σ1)/\x.rows=some srows/\(∀r∈srows,r.length=size)/\rows.length+srows.length<=maxLen/\(rows.length+srows.length) * bytes<=140737488355328/\
   ∀t,A.tok t=false->K (BW dst (.own t e size (rows++srows)) F) L (σ1.BV t))\/
 (∃rows srows,s= .clip rows/\x.rows=some srows/\(∀r∈rows,r.length=size)/\(∀r∈srows,r.length=size)/\rows.length+srows.length<=maxLen/\(rows.length+srows.length) * bytes<=140737488355328/\
   K (BW dst (.d (.sl (rows++srows))) F) L A)
def ZD (cs:List I) (sh:Bool) (dst:Option Nat) (K:CV) (F:Fm) (L:Lm) (A:X):Prop:=
 BA cs=true/\match dst with
  |none=>False
  |some d=>if sh then ∀i,A.C i=none->K (put d (.gp i 0) F) L (A.AI i cs) else K (put d (.lp d 0) (Dk d F)) (CN d cs L) A
def XSt (x v:I) (n:Nat) (dst:Option Nat) (K:CV) (F:Fm) (L:Lm) (A:X):Prop:=
 dst=none/\BA v.cells=true/\v.cells.length=n/\match stA L A v.cells x with
  |some (L',H)=>K F L' H
  |none=>False
def JU (e size bytes:Nat) (s x:I) (dst:Option Nat) (K:CV) (F:Fm) (L:Lm) (A:X):Prop:=
 ∃n cs σ1 srows,M6 A e size s=some (n,cs,σ1)/\x.rows=some srows/\(∀r∈srows,r.length=size)/\(srows=[]->K (BW dst s F) L A)/\n+srows.length<=maxLen/\(n+srows.length) * bytes<=140737488355328/\
  (srows≠[]->∀j,A.C j=none->K (BW dst (.ms j (n+srows.length) size e) F) L (σ1.AI j (cs++BL srows)))
def Aa3 (x h:I) (dst:Option Nat) (K:CV) (F:Fm) (L:Lm) (A:X):Prop:=
 ∃k s e cs σ1,AZ0 A x h=some (k,s,e,cs,σ1)/\∀j,A.C j=none->K (BW dst (.ms j k s e) F) L (σ1.AI j cs)
def WM (e size len:Nat) (cells:Option (List I)) (dst:Option Nat) (K:CV) (F:Fm) (L:Lm) (A:X):Prop:=
 ∃cs,cells=some cs/\((∀j,A.C j=none->K (BW dst (.ms j len size e) F) L (A.AI j cs))\/
  (∃ds,dvs cs=some ds/\∀t,A.tok t=false->K (BW dst (.own t e size (chunk size len ds)) F) L (A.BV t)))
def K8 (e size bytes:Nat) (z:List I) (l c:I) (dst:Option Nat) (K:CV) (F:Fm) (L:Lm) (A:X):Prop:=
 ∃k k' n,l= .d (.int k n)/\c= .d (.int k' n)/\0<=n/\bytes * n<=281474976710656/\n<=9223372036854775807/\
  ∀i,A.C i=none->K (BW dst (.ms i n.toNat size e) F) L (A.AI i (AH n.toNat z).flatten)
def XPv (v:Option I) (dst:Option Nat) (K:CV) (F:Fm) (L:Lm) (A:X):Prop:=
 match v with
 |some v=>K (BW dst v F) L A
 |none=>False
def XEx (k:EK) (args:List I) (dst:Option Nat) (K:CV) (F:Fm) (L:Lm) (A:X):Prop:=
 if k.pure then XPv (exP k args) dst K F L A else args.all I.BS=true/\ExR A (fun v H=>K (BW dst v F) L H) k args
def Z7 (s:Bool) (m k v:I) (dst:Option Nat) (K:CV) (F:Fm) (L:Lm) (A:X):Prop:=
 dst=none/\∃t,A.tok t=true/\match s with
  |false=>∃es n x,m= .om t (mI es)/\k= .d (.int .i64 n)/\v= .d (.int .i64 x)/\es.lookup n=none/\∀t',A.tok t'=false->K (reF t (.om t' (mI (es++[(n,x)]))) F) L ((A.Bh t).BV t')
  |true=>∃ks n x,m= .om t (mK ks)/\k= .agg [.d (.int .i64 n),.d (.str x)]/\v= .d (.bool true)/\(n,x) ∉ ks/\∀t',A.tok t'=false->K (reF t (.om t' (mK (ks++[(n,x)]))) F) L ((A.Bh t).BV t')
def XO (P:Program) (dst:Option Nat) (K:CV) (F:Fm) (L:Lm) (A:X):Q06->Prop
 | .box x sh=>ZD (xv F x).cells sh dst K F L A
 | .al z sh=>ZD z sh dst K F L A
 | .st x v n=>XSt (xv F x) (xv F v) n dst K F L A
 | .msl e size bytes z l c=>K8 e size bytes z (xv F l) (xv F c) dst K F L A
 | .uO e size bytes s x=>JU e size bytes (xv F s) (xv F x) dst K F L A
 | .trn x h=>Aa3 (xv F x) (xv F h) dst K F L A
 | .lT e size len z ps=>WM e size len (LA z F ps) dst K F L A
 | .app e size bytes s x=>DH e size bytes (xv F s) (xv F x) dst K F L A
 | .call f args=>AN P f (xvs F args) dst K F L A
 | .Z9 x args=>∃f first Ae,xv F x= .fn f first Ae/\CP P f=true/\AN P f (first++xvs F args++Ae) dst K F L A
 | .sO f args=>APA P f (xvs F args) dst K F L A
 | .ex k xs=>XEx k (xvs F xs) dst K F L A
 | .eK s m k v=>Z7 s (xv F m) (xv F k) (xv F v) dst K F L A
 |o=>XPv (pv F L A o) dst K F L A
def FH (base:Nat) (Pr:Nat->Prop) (N:Nat) (w0:World) (g:Gh) (w:World) (K:CV) (a':Act) (w':World):Prop:=
 ∃g' lam' F' L' H,g.le g'/\KP Pr w w'/\Bu base g' lam' Pr N F' L' H a' w0 w'/\K F' L' H
theorem FH.trans {K:CV} {a':Act} {g1:Gh} {w1:World} (f:g.le g1) (i:KP Pr w w1) (h:FH base Pr N w0 g1 w1 K a' w'):FH base Pr N w0 g w K a' w':=by
 obtain ⟨g',a,F',L',H,b,c,d,e⟩:=h;exact ⟨g',a,F',L',H,Gh.le_trans f b,i.trans c,d,e⟩
def Gu {x:Value} {next:Act->World->Prop} {Q:Exit->Act->World->Prop} (b:(execOp a.eval o).run P w= .ok (.value x) w') (h:next (a.put o.dst x) w'):o.wp P a w next Q:=by
 unfold Oper.wp;rw [b];exact h
def CO {sh im:Bool} (l:xP P sh im lc o.op=some c) (m:∀k,o.dst=some k->k < N) {K:CV} (b:XPv (pv F L A c) o.dst K F L A)
 (h:Bu base g lam Pr N F L A a w0 w) {Q:Exit->Act->World->Prop}:o.wp P a w (FH base Pr N w0 g w K) Q:=by
 cases d:pv F L A c with
 |none=>rw [d] at b;exact b.elim
 |some v=>
  rw [d] at b;obtain ⟨x,g',w',n,e,f,i,j⟩:=ASO l d base g lam Pr N a w0 w h;exact Gu n ⟨g',lam,_,L,A,e,f,j.BW m i,b⟩
def tZ {vs:Array Value} {sh:Bool} (y:∀k,o.dst=some k->k < N) {K:CV} (e:ZD cs sh o.dst K F L A)
 (h:Bu base g lam Pr N F L A a w0 w) (u:VRs g cs vs.toList) (r:(execOp a.eval o).run P w= .ok (.value (.pointer (some ⟨w.heap.size,0,none⟩))) (w.alloc (.cells vs ty)))
 {Q:Exit->Act->World->Prop}:o.wp P a w (FH base Pr N w0 g w K) Q:=by
 obtain ⟨p,e⟩:=e;refine Gu r ?_;cases c:o.dst with
 |none=>grind
 |some d=>
  rw [c] at e;have j:=y d c;have l:KP Pr w (w.alloc (.cells vs ty)):=⟨by simp,fun b t=>heap_alloc_old w _ b (h.rel.pr b (.inl t)).1⟩;cases sh with
  |false=>
   simp only [As,if_false] at e
   have x:Bu base g lam Pr N (Dk d F) L A a w0 w:=by
    refine ⟨fun s=>?_,h.sz,h.df,h.loc,h.inj,h.npr,h.rel⟩;simp only [Dk];split
    . exact VR.undef
    . exact h.tm s
   exact ⟨g,_,_,_,A,Gh.le_refl g,l,x.AR5 j (AGS d F) ty u p,e⟩
  |true=>
   simp only [if_true] at e;obtain ⟨i,n,_,f,_⟩:=h.rel.fresh;have q:=h.rel.share (rt:=none) n (AW _) (h.rel.alloc (.cells vs ty)) (heap_alloc_new w _) (fun _ h=>by cases h) u p (fun B=>by have:=(h.rel.pr _ B).1;omega);have m:=Gh.OM (g:=g) (i:=i) (b:=w.heap.size) (rt:=none) n;have z:=h.step m (fun k b t=>heap_alloc_old w _ b (h.Lv t)) q;exact ⟨_,lam,_,L,_,m,l,z.put j (v:= .gp i 0) (SV.FT (.gp (by simp [Gh.share]))),e i f⟩
def AOY {t:TypeId} {z:Operand} {xv':Q09} (q:o.op= .store t y z) (v:xo y=some x) (B:xo z=some xv') (p:szT P t=some n) {K:CV}
 (i:XSt (xv F x) (xv F xv') n o.dst K F L A) (h:Bu base g lam Pr N F L A a w0 w) {Q:Exit->Act->World->Prop}:o.wp P a w (FH base Pr N w0 g w K) Q:=by
 obtain ⟨c,b,d,i⟩:=i;cases f:stA L A (xv F xv').cells (xv F x) with
 |none=>grind
 |some r=>
  obtain ⟨L',H⟩:=r;rw [f] at i;have u:=(Aq B h).vr (VX b);have k:=u.cells b;obtain ⟨D,w',s,e,m,l⟩:=h.store (P:=P) (Aq v h) k b f;have j:(a.eval z).cells.size=n:=by have:=k.length;simpa [d] using this
  have:(execOp a.eval o).run P w= .ok .skip w':=by
   unfold execOp;simp only [q,s,Instr.storeAt,Instr.sureAddr,storeVar,Sem.run_bind,Sem.run_pure,Result.andThen_ok,Es p];simp [j,e]
  unfold Oper.wp;rw [this];show FH base Pr N w0 g w K (a.put o.dst DJ) w';rw [c];exact ⟨g,lam,F,L',H,Gh.le_refl g,m,l,i⟩
def AJK {t:TypeId} {zv:Value} {z:Operand} {xs:Q09} (R:o.op= .call { callee:= .builtin .append,args:=#[y,z],argTypes:=#[t,t]})
 (T:xo y=some xs) (U:xo z=some x) (S:P.underlying t=some (.slice e)) (G:P.info? e=some i) (r:i.zero=some zv) (q:zv.cells.size=i.size) (E:∀k,o.dst=some k->k < N) {K:CV}
 (Z:DH e i.size i.bytes (xv F xs) (xv F x) o.dst K F L A) (h:Bu base g lam Pr N F L A a w0 w) {Q:Exit->Act->World->Prop}:o.wp P a w (FH base Pr N w0 g w K) Q:=by
 rcases Z with ⟨rows,σ1,srows,B,l,m,c,d,u⟩|⟨rows,srows,Y,l,D,m,c,d,u⟩
 case inr=>
  obtain ⟨v,g',w',b,j,f,n,s⟩:=AHA (ty:=o.type) S G r q h (Y ▸ Aq T h) (Aq U h) l D m c d;refine Gu (x:=v) (w':=w') ?_ ⟨g',lam,_,L,_,j,f,s.BW E (SV.FT n),u⟩;unfold execOp;simp [R,resolve,invoke,builtin,b]
 obtain ⟨v,g',w',t',b,j,f,p,n,s⟩:=ALV (ty:=o.type) S G r q h (Aq T h) (Aq U h) B l m c d;refine Gu (x:=v) (w':=w') ?_ ⟨g',lam,_,L,_,j,f,s.BW E (SV.FT n),u t' p⟩;unfold execOp;simp [R,resolve,invoke,builtin,b]
def lM {f:FuncId} {args:List I} (j:(execOp a.eval o).run P w= .ok (.enter f vs.toArray) w) (q:∀k,o.dst=some k->k < N) {K:CV}
 (x:VRs g args vs) (y:AN P f args o.dst K F L A) (h:Bu base g lam Pr N F L A a w0 w) {Q:Exit->Act->World->Prop}:o.wp P a w (FH base Pr N w0 g w K) Q:=by
 obtain ⟨_,R,p,t⟩:=y;unfold Oper.wp;rw [j];refine (p base g _ w0 w vs h.rel x).mono fun e w' ⟨v,n,g',H,r,m,i,d,c,u⟩=>?_;subst r;have s:=h.step d (fun k b l=>c.2 b (.inr ⟨k,l⟩)) i;exact ⟨g',lam,_,L,H,d,⟨c.1,fun b l=>c.2 b (.inl l)⟩,s.BW q (SV.FT m),t n H u⟩
theorem eX {f:FuncId} (a:CP P f=true) (args:Array Value):(callFunc f args).run P w= .ok (.enter f args) w:=by
 unfold CP at a;simp only [AM] at a;obtain ⟨c,e⟩:=a;cases d:P.funcs[f]? with
 |none=>grind
 |some fn=>
  simp only [d,Jt] at c;have g:fn.name≠ "runtime.NumGoroutine":=by simpa [d] using e
  have h:fn.body≠none:=by cases b:fn.body<;>simp [b] at c ⊢
  unfold callFunc;simp_all
theorem B2 {n:Int} (a:0<=n) (b:n<=9223372036854775807):IntKind.i64.wrap n=n:=by
 unfold IntKind.wrap;simp only [IntKind.signed,IntKind.bits]
 grind
def AJL {t:TypeId} {z:List I} {y2:Operand} {x2:Q09} (ho:o.op= .makeSlice t y y2) (hy:xo y=some x) (hy2:xo y2=some x2)
 (he:UZ P t=some e) (hi:P.info? e=some i) (hz:W5 P e=some z) (hzn:z.length=i.size/\0 < i.size) (hd:∀k,o.dst=some k->k < N) {K:CV}
 (hx:K8 e i.size i.bytes z (xv F x) (xv F x2) o.dst K F L A) (h:Bu base g lam Pr N F L A a w0 w) {Q:Exit->Act->World->Prop}:o.wp P a w (FH base Pr N w0 g w K) Q:=by
 obtain ⟨k,k',n,h1,h2,h0,hb,hm,hk⟩:=hx;have hs1:=Aq hy h;have hs2:=Aq hy2 h;rw [h1] at hs1;rw [h2] at hs2;have e1:a.eval y= .int k n:=by generalize a.eval y=vy at hs1;cases hs1 with|d hh=>cases hh;rfl
 have e2:a.eval y2= .int k' n:=by generalize a.eval y2=vy at hs2;cases hs2 with|d hh=>cases hh;rfl
 obtain ⟨i',zv,hi',hzv,hok,hvr⟩:=LZ hz;rw [hi] at hi';cases hi';have hzs:zv.cells.size=i.size:=by have:=(hvr g).length;simp at this;omega
 have hu:=Mx he;have hw:=B2 h0 hm
 have hno:¬(i.bytes * n>2 ^ 48):=by have:(2:Int) ^ 48=281474976710656:=by decide
                                    omega
 have harr:((if n.toNat * i.size=0 then pure #[] else do pure (<- zeroValue e).cells:Sem (Array Value))).run P w= .ok (if n.toNat * i.size=0 then #[] else zv.cells) w:=by
  split<;>simp [zeroValue,typeInfo,hi,hzv]
 have hcells:∃arr:Array Value,(execOp a.eval o).run P w= .ok (.value (.slice (some ⟨w.heap.size,0,none⟩) n.toNat n.toNat)) (w.alloc (.cells arr e))/\arr.toList=(AH n.toNat zv.cells.toList).flatten:=by
  by_cases h00:n.toNat * i.size=0
  . refine ⟨#[],?_,?_⟩
    . have hr0:XI 0=#[]:=rfl;unfold execOp;simp only [ho,e1,e2,Instr.makeSlice,Sem.run_bind,B7 hu,Result.andThen_ok,asInt,asIntOf,Sem.run_pure,typeInfo,run_program,hi,hw];have c1:¬((decide (n < 0)||decide (i.bytes * n>2 ^ 48))||decide (n < 0)||decide (n>n))=true:=by simp;omega
      simp only [if_neg c1,Sem.run_bind,run_askRoom,Result.andThen_ok,sizeOf,typeInfo,run_program,hi,Sem.run_pure];simp only [h00,if_true,pure_bind,hr0,Array.map_empty,newRow,Sem.run_bind,run_newObj,Result.andThen_ok,Sem.run_pure,World.alloc_eq]
    grind [Nat.mul_eq_zero]
  . refine ⟨(XI (n.toNat * i.size)).map (zv.cells[· % zv.cells.size]!),?_,range_zero zv.cells i.size hzs hzn.2 n.toNat⟩;unfold execOp;simp only [ho,e1,e2,Instr.makeSlice,Sem.run_bind,B7 hu,Result.andThen_ok,asInt,asIntOf,Sem.run_pure,typeInfo,run_program,hi,hw];have c1:¬((decide (n < 0)||decide (i.bytes * n>2 ^ 48))||decide (n < 0)||decide (n>n))=true:=by simp;omega
    simp only [if_neg c1,Sem.run_bind,run_askRoom,Result.andThen_ok,sizeOf,typeInfo,run_program,hi,Sem.run_pure];simp only [if_neg h00,Sem.run_bind,zeroValue,typeInfo,run_program,Result.andThen_ok,hi,Sem.run_pure,hzv,newRow,run_newObj,World.alloc_eq]
 obtain ⟨arr,hrun,harrl⟩:=hcells;have hr:VRs g (AH n.toNat z).flatten arr.toList:=by rw [harrl];exact (hvr g).flatten _
 have hkp:KP Pr w (w.alloc (.cells arr e)):=⟨by simp,fun b hb=>heap_alloc_old w _ b (h.rel.pr b (.inl hb)).1⟩;obtain ⟨j,hmu,_,hblk,_⟩:=h.rel.fresh
 have hasz:arr.size=n.toNat * i.size:=by
  have h1:arr.toList.length=n.toNat * zv.cells.toList.length:=by rw [harrl,GP]
  simpa [hzs] using h1
 have hrel:=h.rel.share (rt:=some (n.toNat * i.size,e)) hmu (AW _) (h.rel.alloc (.cells arr e)) (heap_alloc_new w _) (fun t ht=>by grind) hr (K4 hok _) (fun hp=>by have:=(h.rel.pr _ hp).1;omega);have hle:=Gh.OM (g:=g) (i:=j) (b:=w.heap.size) (rt:=some (n.toNat * i.size,e)) hmu;have hf:=h.step hle (fun k b hb=>heap_alloc_old w _ b (h.Lv hb)) hrel;refine Gu hrun ⟨_,lam,_,L,_,hle,hkp,hf.BW hd (v:= .ms j n.toNat i.size e) (SV.FT (.ms (by simp [Gh.share]) (by simp [Gh.share]) (AW _) (by simp only [maxLen];omega))),hk j hblk⟩
def AGC {t:TypeId} {zv:Value} {z:Operand} {xs:Q09} (ho:o.op= .call { callee:= .builtin .append,args:=#[y,z],argTypes:=#[t,t]})
 (hy:xo y=some xs) (hz:xo z=some x) (ht:P.underlying t=some (.slice e)) (hi:P.info? e=some i) (h1:i.zero=some zv) (h0:zv.cells.size=i.size) (hd:∀k,o.dst=some k->k < N) {K:CV}
 (hx:JU e i.size i.bytes (xv F xs) (xv F x) o.dst K F L A) (h:Bu base g lam Pr N F L A a w0 w) {Q:Exit->Act->World->Prop}:o.wp P a w (FH base Pr N w0 g w K) Q:=by
 obtain ⟨n,cs,σ1,srows,b,m,Y,u,E,G,hk⟩:=hx;by_cases q:srows=[]
 . subst q;have f:=Aq hy h
   have p:∃r cap,a.eval y= .slice r n cap/\n<=cap:=by
    generalize a.eval y=vy at f;unfold M6 at b;split at b
    . rename_i heq;rw [heq] at f;cases b;cases f;grind
    . rename_i heq;rw [heq] at f;split at b
      . simp only [AF] at b;obtain ⟨h2,_,b⟩:=b;split at b
        . cases b;cases f with
          |ms _ _ hn _=>grind
        . cases b
      . cases b
    . cases b
   obtain ⟨r,cap,B,U⟩:=p
   obtain ⟨d,c,D⟩:∃d c,a.eval z= .slice d 0 c:=by
    have hq:=Aq hz h;generalize a.eval z=vz at hq
    have hn:(xv F x).BS=true:=by
     generalize xv F x=xx at m;cases xx<;>first|rfl|(cases m;done)
    obtain ⟨d,c,he⟩:=tE (hq.vr hn) m
    grind
   have l:(Builtin.append_ #[t,t] o.type #[.slice r n cap,.slice d 0 c]).run P w= .ok (.slice r n cap) w:=by
    have R:∀sz,(Builtin.firstCells sz 0 (.slice d 0 c)).run P w= .ok #[] w:=fun sz=>by
     cases d<;>simp [Builtin.firstCells,loadCells,loadCellsFrom]
    cases r<;>simp [Builtin.append_,run_underlying ht,sizeOf,typeInfo,hi,Builtin.lenOf,U,R,storeCells]
   refine Gu (x:= .slice r n cap) (w':=w) ?_ ⟨g,lam,_,L,A,Gh.le_refl g,KP.refl Pr w,h.BW hd (B ▸ f),u rfl⟩;unfold execOp;simp [ho,resolve,invoke,builtin,B,D,l]
 obtain ⟨v,g',w',j,l,T,S,s,Z,hf⟩:=AGZ (ty:=o.type) ht hi h1 h0 h (Aq hy h) (Aq hz h) b m Y q E G;refine Gu (x:=v) (w':=w') ?_ ⟨g',lam,_,L,_,T,S,hf.BW hd (SV.FT Z),hk q j s⟩;unfold execOp;simp [ho,resolve,invoke,builtin,l]
def AJM {t e0:TypeId} {sz:Nat} {z:Operand} {xh:Q09} (D:o.op= .slice t y none (some z) none) (p:P.underlying t=some (.slice e0)) (d:szT P e0=some sz) (u:xo y=some x) (B:xo z=some xh)
 (l:∀k,o.dst=some k->k < N) {K:CV} (r:Aa3 (xv F x) (xv F xh) o.dst K F L A) (h:Bu base g lam Pr N F L A a w0 w) {Q:Exit->Act->World->Prop}:o.wp P a w (FH base Pr N w0 g w K) Q:=by
 obtain ⟨k,s,e,cs,σ1,q,n⟩:=r;obtain ⟨v,g',j,i,c,b,f,m⟩:=AON (P:=P) p d h (Aq u h) (Aq B h) q;refine Gu (x:=v) (w':=w) ?_ ⟨g',lam,_,L,_,c,KP.refl Pr w,m.BW l (SV.FT f),n j b⟩;unfold execOp;simp_all
def AGD {t:TypeId} {len:Nat} {z:List I} {cps:List (Nat×Nat×Q09)} (ho:o.op= .buildSlice t len ps) (he:UZ P t=some e) (hz:W5 P e=some z) (hn:szT P e=some n)
 (hzn:z.length=n/\0 < n/\len * n<=4096/\len<=4096) (hp:Vp (fun i=>some (i * n,n)) ps.toList=some cps) (hd:∀k,o.dst=some k->k < N) {K:CV}
 (hx:WM e n len (LA (AH len z).flatten F cps) o.dst K F L A) (h:Bu base g lam Pr N F L A a w0 w) {Q:Exit->Act->World->Prop}:o.wp P a w (FH base Pr N w0 g w K) Q:=by
 obtain ⟨cs,hf,hk⟩:=hx;obtain ⟨hzl,h0,hsmall,hlen⟩:=hzn;obtain ⟨i,zv,hi,hzv,hok,hvr⟩:=LZ hz;have hu:=Mx he;have hzs:zv.cells.size=n:=by have:=(hvr g).length;simp at this;omega
 have hinit:VRs g (AH len z).flatten ((XI (len * n)).map (zv.cells[· % zv.cells.size]!)).toList:=by
  rw [range_zero zv.cells n hzs h0 len];exact (hvr g).flatten len
 obtain ⟨cells,hfill,hr,hck⟩:=V2 h _ ps.toList cps _ _ cs hp hinit (K4 hok len) hf
 have hcl:cells.size=len * n:=by
  have h1:=hr.length;have h2:=V1 F cps _ cs hf;have h3:=GP z len;simp at h1;grind
 have hrun:(Instr.buildSlice t len (ps.map fun (i,x)=>(i,a.eval x))).run P w= .ok (.slice (some ⟨w.heap.size,0,none⟩) len len) (w.alloc (.cells cells e)):=by
  have hm:(ps.map fun (i,x)=>(i,a.eval x)).toList=ps.toList.map fun p=>(p.1,a.eval p.2):=by simp
  have hno:¬(len * n>2 ^ 24):=Nat.not_lt.2 (Ai hsmall (by decide));unfold Instr.buildSlice;simp only [Sem.run_bind,B7 hu,Result.andThen_ok,Es hn,hm];rw [if_neg hno];by_cases h00:len * n=0
  . have hr0:XI 0=#[]:=rfl;rw [h00,hr0] at hfill;simp only [h00,if_true,pure_bind,hr0,Array.map_empty] at hfill ⊢
    grind [Sem.run_bind,newRow,run_newObj,Result.andThen_ok,Sem.run_pure,World.alloc_eq]
  . simp only [if_neg h00,Sem.run_bind,zeroValue,typeInfo,run_program,Result.andThen_ok,hi,Sem.run_pure,hzv,hfill,newRow,run_newObj,World.alloc_eq]
 have hkp:KP Pr w (w.alloc (.cells cells e)):=⟨by simp,fun b hb=>heap_alloc_old w _ b (h.rel.pr b (.inl hb)).1⟩
 have hexec:(execOp a.eval o).run P w= .ok (.value (.slice (some ⟨w.heap.size,0,none⟩) len len)) (w.alloc (.cells cells e)):=by
  unfold execOp;simp [ho,hrun]
 obtain ⟨j,hmu,htau,hblk,htok⟩:=h.rel.fresh;rcases hk with hk|⟨ds,hds,hk⟩;rotate_left
 . have hown:(w.alloc (.cells cells e)).ownsRow base e n (.slice (some ⟨w.heap.size,0,none⟩) len len) (0+len) ([]++cells.toList):=
    ⟨by simp [hcl],.inr ⟨w.heap.size,len,cells,by simp,h.rel.bs,heap_alloc_new w _,by omega,by simp only [maxLen];omega,hcl,by
      rw [A3,Av,AR (by simp [hcl])]⟩⟩
   have hmine:=uN.nil base g (fun b=>Pr b\/∃k,lam k=some b) A w e n;have hgb:w.grownBy (w.alloc (.cells cells e)) (Value.ownBlock (.slice (some ⟨w.heap.size,0,none⟩) len len)):=⟨rfl,rfl,rfl,by simp,fun k hk _=>heap_alloc_old w _ k hk⟩
   have hwh:∀k,Value.ownBlock (.slice (some ⟨w.heap.size,0,none⟩) len len)=some k->Value.ownBlock (.slice none 0 0)=some k\/w.heap.size<=k:=fun k hk=>by
    grind [Value.ownBlock,AP,Nat.le_of_eq]
   have hrel:=h.rel.AY1 (m:=len) (news:=cells.toList) hmine hown hgb hwh htau;have hle:=h.rel.nP (news:=cells.toList) hmine hwh htau;have hf2:=h.step hle (fun k b hb=>heap_alloc_old w _ b (h.Lv hb)) hrel;obtain ⟨hll,hrd⟩:=Yl cs ds hds _ (hr.mono hle);have h1:=hr.length
   have hrdv:RD (g.grow (.slice (some ⟨w.heap.size,0,none⟩) len len) e n j ([]++cells.toList)).im (.sl (chunk n len ds)) (.slice (some ⟨w.heap.size,0,none⟩) len len):=
    RD.fresh (cells:=cells.toList) (by grind) (by simp only [maxLen];omega) (by grind) (fun o v hv=>by
     simp only [Gh.grow,Value.ownBlock,if_true,A3];exact hv) hrd
   refine Gu (x:= .slice (some ⟨w.heap.size,0,none⟩) len len) (w':=w.alloc (.cells cells e)) hexec ⟨_,lam,_,L,_,hle,hkp,hf2.BW hd (v:= .own j e n (chunk n len ds)) (SV.FT (.own hrdv (by simp [Gh.grow]) (fun r hr'=>?_))),hk j htok⟩;obtain ⟨k,hk1,rfl⟩:=CJ hr';have hkl:k < len:=by rw [HZ] at hk1;exact hk1
   have:=Ye n len ds k hkl;rw [An hk1] at this;rw [RE this,Bs,OU];have hdl:ds.length=len * n:=by simp at h1;omega
   have h2:(k+1) * n<=len * n:=CW _ hkl
   grind
 have hrel:=h.rel.share (rt:=some (len * n,e)) hmu (AW _) (h.rel.alloc (.cells cells e)) (heap_alloc_new w _) (fun t ht=>by grind) hr hck (fun hp=>by have:=(h.rel.pr _ hp).1;omega);have hle:=Gh.OM (g:=g) (i:=j) (b:=w.heap.size) (rt:=some (len * n,e)) hmu;have hf2:=h.step hle (fun k b hb=>heap_alloc_old w _ b (h.Lv hb)) hrel;refine Gu (x:= .slice (some ⟨w.heap.size,0,none⟩) len len) (w':=w.alloc (.cells cells e)) ?_ ⟨_,lam,_,L,_,hle,hkp,hf2.BW hd (v:= .ms j len n e) (SV.FT (.ms (by simp [Gh.share]) (by simp [Gh.share]) (AW _) (by simp only [maxLen];omega))),hk j hblk⟩;exact hexec
theorem AGE {sh im:Bool} (j:xP P sh im lc o.op=some c) (u:∀k,o.dst=some k->k < N) {K:CV} (q:XO P o.dst K F L A c)
 (h:Bu base g lam Pr N F L A a w0 w) {Q:Exit->Act->World->Prop}:o.wp P a w (FH base Pr N w0 g w K) Q:=by
 have p:=j;cases E:o.op<;>rw [E] at j<;>simp only [xP] at j
 case alloc t=>
  simp only [AO] at j;obtain ⟨z,hz,rfl⟩:=j;obtain ⟨i,zv,U,hj,Y,hf⟩:=LZ hz;exact tZ (ty:=t) u q h (hf g) (by unfold execOp;simp [E,Instr.alloc,zeroValue,typeInfo,U,hj,newVar,newRow])
 case box t y=>
  simp only [AO] at j;obtain ⟨x,h3,rfl⟩:=j;cases im
  case true=>exact CO p u q h
  have q:ZD (xv F x).cells sh o.dst K F L A:=q;have Y:BA (xv F x).cells=true:=q.1;have hv:=((Aq h3 h).vr (VX Y)).cells Y;exact tZ (ty:=t) u q h hv (by unfold execOp;simp [E,Instr.box,newVar,newRow])
 case store t y z=>
  simp only [AX,AF] at j;obtain ⟨x,h3,x2,h6,n,hn,B⟩:=j;cases B;exact AOY E h3 h6 hn q h
 case makeSlice t l cc=>
  simp only [AX,AF] at j;obtain ⟨e,B,i,U,z,hz,v⟩:=j;split at v
  . rename_i D;simp only [AF] at v;obtain ⟨xl,h0,xc,hg,v⟩:=v;cases v;exact AJL E h0 hg B U hz D u q h
  . cases v
 case call cl=>
  obtain ⟨callee,⟨args⟩,⟨argTypes⟩⟩:=cl;unfold c8 at j;cases callee with
  |invoke r m=>cases j
  |value fo=>
   cases fo<;>simp only at j
   . rename_i n;simp only [AO] at j;obtain ⟨xs,S,rfl⟩:=j;obtain ⟨f,first,Ae,h9,h8,q⟩:=q;have G:=q.1;simp only [ZB,AM] at G;have hs:SV g lam (.fn f first Ae) (a.tmps.getD n DJ):=by have:=h.tm n;simp only [xv] at h9;grind
     have T:=Uy h args xs S G.1.2;generalize hm:a.tmps.getD n DJ=vn at hs;cases hs with
     |@fn _ _ _ fs cs hl ha h1 h2=>
      refine lM (vs:=fs++args.map a.eval++cs) ?_ u (((VRs.Qe _ _ hl h1).append T).append (VRs.Qe _ _ ha h2)) q h;unfold execOp
      grind [resolve,Act.eval,Deferred.ofValue,Sem.run_bind,Sem.run_pure,Result.andThen_ok,invoke,eX]
   . cases j
   . cases j
   . rename_i f;split at j
     . rename_i hb;simp only [AO] at j;obtain ⟨xs,S,rfl⟩:=j;have G:(xvs F xs).all I.BS=true:=q.1;refine lM (vs:=args.map a.eval) ?_ u (Uy h args xs S G) q h;unfold execOp;simp only [E,resolve,Act.eval,Deferred.ofValue,Sem.run_bind,Sem.run_pure,Result.andThen_ok,invoke];rw [eX hb];simp
     . cases j
  |builtin b=>
   simp only at j;unfold APW at j;split at j
   . rename_i x t
     have:∃x',c= .len x'\/c= .AOD x':=by
      cases hu:P.underlying t with
      |none=>grind
      |some d=>
       rw [hu] at j;cases d<;>try (cases j;done)
       . simp only [AO] at j;grind
       . simp only [AO] at j;grind
     obtain ⟨x',rfl|rfl⟩:=this
     . exact CO p u q h
     . exact CO p u q h
   . simp only [AX,AF] at j;obtain ⟨x,_,x2,_,v⟩:=j;cases v;exact CO p u q h
   . simp only [AX,AF] at j;obtain ⟨x,_,x2,_,x3,_,v⟩:=j;cases v;exact CO p u q h
   . simp only [AX,AF] at j;obtain ⟨x,_,x2,_,v⟩:=j;cases v;exact CO p u q h
   . simp only [AX,AF] at j;obtain ⟨e,B,i,U,z,hz,v⟩:=j;split at v
     . rename_i D;obtain ⟨rfl,h7,hk⟩:=D;simp only [AF] at v;obtain ⟨xs,S,x,R,v⟩:=v;cases sh
       . cases v;exact AJK E S R (Mx B) U hz h7 u q h
       . cases v;exact AGC E S R (Mx B) U hz h7 u q h
     . cases v
   . cases j
 case move y=>
  simp only [AO] at j;obtain ⟨x,_,rfl⟩:=j;exact CO p u q h
 case assign y=>
  simp only [AO] at j;obtain ⟨x,_,rfl⟩:=j;exact CO p u q h
 case extract y i=>
  simp only [AO] at j;obtain ⟨x,_,rfl⟩:=j;exact CO p u q h
 case nilCheck y=>
  simp only [AO] at j;obtain ⟨x,_,rfl⟩:=j;exact CO p u q h
 case pick y1 y2 y3=>
  simp only [AX,AF] at j;obtain ⟨_,_,_,_,_,_,B⟩:=j;cases B;exact CO p u q h
 case fieldAddr s y f=>
  simp only [AX,AF] at j;obtain ⟨_,_,_,_,B⟩:=j;cases B;exact CO p u q h
 case load t y=>
  simp only [AX,AF] at j;obtain ⟨_,_,_,_,B⟩:=j;cases lc
  . cases B;exact CO p u q h
  . cases B;exact CO p u q h
 case indexAddr t y i=>
  simp only [AX,AF] at j;obtain ⟨_,_,_,_,_,_,_,_,B⟩:=j;cases B;exact CO p u q h
 case index t y i=>
  split at j
  . simp only [AX,AF] at j;obtain ⟨_,_,_,_,B⟩:=j;cases B;exact CO p u q h
  . cases j
 case field s y f=>
  simp only [AX,AF] at j;obtain ⟨_,_,_,_,_,_,B⟩:=j;cases B;exact CO p u q h
 case slice t y lo U mx=>
  cases hu:P.underlying t with
  |none=>grind
  |some d=>
   rw [hu] at j;cases d<;>try (cases j;done)
   . cases mx with
     |some _=>cases j
     |none=>
      simp only [AX,AF] at j;obtain ⟨x,R,xl,h0,xh,Z,v⟩:=j;cases v;exact CO p u q h
   . rename_i e;cases sh
     . simp only [As,if_false,AX,AF] at j;obtain ⟨x,R,xl,h0,xh,Z,xm,ho,sz,h5,v⟩:=j;cases v;exact CO p u q h
     . simp only [if_true] at j;obtain ⟨rfl,z,rfl,rfl,x,xh,sz,R,Z,h5,rfl⟩:=zL j;exact AJM E hu h5 R Z u q h
 case binOp op t y z t2=>
  cases hu:P.underlying t with
  |none=>grind
  |some dd=>
  rw [hu] at j;cases dd<;>try (cases j;done)
  case pointer e=>
   obtain ⟨_,ne,x,_,_,rfl⟩:=sU j;exact CO p u q h
  case struct fs=>
   have j:(if Ui P t then zJ op fs.size y z else none)=some c:=j;split at j
   . obtain ⟨ne,x,xi,_,_,_,rfl⟩:=tH j;exact CO p u q h
   . cases j
  all_goals first
   |(cases j;done)
   |(simp only [AX,AF] at j
     obtain ⟨_,_,_,_,B⟩:=j;cases B;exact CO p u q h)
 case unOp op t y=>
  simp only [AX,AF] at j;obtain ⟨_,_,B⟩:=j;cases B;exact CO p u q h
 case convert s t y=>
  split at j
  . simp only [AX,AF] at j;obtain ⟨_,_,B⟩:=j;cases B;exact CO p u q h
  . cases j
 case build t ps=>
  simp only [AX,AF] at j;obtain ⟨_,_,_,_,_,_,B⟩:=j;cases B;exact CO p u q h
 case buildSlice t len ps=>
  simp only [AX,AF] at j;obtain ⟨_,_,_,_,_,_,v⟩:=j;split at v
  . rename_i D;simp only [AF] at v;obtain ⟨cps,h4,v⟩:=v;cases sh
    . cases v;exact CO p u q h
    . cases v;exact AGD E ‹_› ‹_› ‹_› D h4 u q h
  . cases v
 case makeFunc fn first Ae=>
  cases fn<;>simp only [AX,AF] at j<;>try (cases j;done)
  obtain ⟨_,_,_,_,v⟩:=j;cases v;exact CO p u q h
 all_goals (cases j;done)
def fE (l:∀x w',m.run P w= .ok x w'->(execOp a.eval o).run P w= .ok (.value x) w') {K:CV} (i:∀k,o.dst=some k->k < N)
 (h:K3 P m base g lam Pr N F L a w0 w (fun v H=>K (BW o.dst v F) L H)) {Q:Exit->Act->World->Prop}:o.wp P a w (FH base Pr N w0 g w K) Q:=by
 obtain ⟨x,g',w',v,H,b,d,c,e,j,f⟩:=h;exact Gu (l x w' b) ⟨g',lam,_,L,H,d,c,j.BW i (SV.FT e),f⟩
def AaC (i:∀x w',m.run P w= .ok x w'->(execOp a.eval o).run P w= .ok (.value x) w') {K:CV} (d:∀k,o.dst=some k->k < N) (e:Bu base g lam Pr N F L A a w0 w) {v:I}
 (h:∃x,m.run P w= .ok x w/\VR g v x) (f:K (BW o.dst v F) L A) {Q:Exit->Act->World->Prop}:o.wp P a w (FH base Pr N w0 g w K) Q:=by
 obtain ⟨x,b,c⟩:=h;exact Gu (i x w b) ⟨g,lam,_,L,A,Gh.le_refl g,KP.refl Pr w,e.BW d (SV.FT c),f⟩
theorem ALI {v:Option I} {K:CV} (h:XPv v dst K F L A):∃x,v=some x/\K (BW dst x F) L A:=by
 cases v with
 |none=>exact h.elim
 |some x=>exact ⟨x,rfl,h⟩
def AJ4 {k:EK} {args:List I} {v:I} (h:exP k args=some v):args.all I.BS=true/\xV k args=some v:=by
 grind [exP]
theorem Qi {x:Value} (a:m.run P w= .ok x w'):((do let v <- m;pure (.value v):Sem Next)).run P w= .ok (.value x) w':=by
 simp_all
theorem AOW {sh im:Bool} (d:APX P sh im o.op=some c) (E:∀k,o.dst=some k->k < N) {K:CV} (j:XO P o.dst K F L A c)
 (h:Bu base g lam Pr N F L A a w0 w) {Q:Exit->Act->World->Prop}:o.wp P a w (FH base Pr N w0 g w K) Q:=by
 unfold APX at d;split at d
 . rename_i t p;split at d
   . simp only [AO] at d;obtain ⟨z,hz,rfl⟩:=d;have j:([]:List I).all I.BS=true/\ExR A (fun v H=>K (BW o.dst v F) L H) (.alt t z) []:=j;obtain ⟨x,w',R,g',v,H,h1,h2,h3,h4,h5⟩:=ALT (P:=P) hz h j.2;exact Gu (R o p) ⟨g',lam,_,L,H,h1,h2,h4.BW E (SV.FT h3),h5⟩
   . cases d
 . rename_i op t x y t2 p;split at d
   . rename_i e Y;split at d
     . simp only [AO] at d;obtain ⟨q,l,rfl⟩:=d;have j:[xv F q].all I.BS=true/\ExR A (fun v H=>K (BW o.dst v F) L H) (.wZ false) [xv F q]:=j;have Z:=(Aq l h).vr (by grind);exact fE (fun z w' B=>by unfold execOp;simp only [p];exact Qi B) E (tF (ne:=false) Y h Z j.2 x (.const (.slice none 0 0)))
     . simp only [AO] at d;obtain ⟨q,l,rfl⟩:=d;have j:[xv F q].all I.BS=true/\ExR A (fun v H=>K (BW o.dst v F) L H) (.wZ true) [xv F q]:=j;have Z:=(Aq l h).vr (by grind);exact fE (fun z w' B=>by unfold execOp;simp only [p];exact Qi B) E (tF (ne:=true) Y h Z j.2 x (.const (.slice none 0 0)))
     . cases d
   . cases d
 . rename_i mt p;cases d;have j:([]:List I).all I.BS=true/\ExR A (fun v H=>K (BW o.dst v F) L H) .mmk []:=j;exact fE (m:=Instr.makeMap mt none) (fun z w' B=>by grind [execOp,Qi]) E (ANK (mt:=mt) h j.2)
 . rename_i mt x y p;split at d
   . rename_i k e hm;split at d
     . rename_i f;simp only [AF,AO] at d;obtain ⟨q,l,yy,D,rfl⟩:=d;have j:[xv F q,xv F yy].all I.BS=true/\ExR A (fun v H=>K (BW o.dst v F) L H) .ANJ [xv F q,xv F yy]:=j;have r:=j.1;simp only [BK,Cl,Cu,AM] at r;exact fE (fun z w' B=>by grind [execOp,Qi]) E (AE4 hm f.1 f.2 h ((Aq l h).vr r.1) ((Aq D h).vr r.2) j.2)
     . cases d
   . cases d
 . rename_i mt x y p;split at d
   . rename_i k e hm;split at d
     . rename_i f;simp only [AF,AO] at d;obtain ⟨q,l,yy,D,rfl⟩:=d;have j:[xv F q,xv F yy].all I.BS=true/\ExR A (fun v H=>K (BW o.dst v F) L H) .ABB [xv F q,xv F yy]:=j;have r:=j.1;simp only [BK,Cl,Cu,AM] at r;exact fE (fun z w' B=>by grind [execOp,Qi]) E (AIE hm f.1 f.2 h ((Aq l h).vr r.1) ((Aq D h).vr r.2) j.2)
     . cases d
   . cases d
 . rename_i mt x y z p;split at d
   . rename_i k e hm;split at d
     . rename_i f;simp only [AF,AO] at d;obtain ⟨q,l,yy,D,zz,T,rfl⟩:=d;have j:=(show Z7 (NH P k) (xv F q) (xv F yy) (xv F zz) o.dst K F L A from j)
       have hg:∀ {g':Gh} {w':World} {t t':Nat} {es:MEs},(Instr.mapUpdate mt (a.eval x) (a.eval y) (a.eval z)).run P w= .ok () w'->g.le g'->KP Pr w w'->Bu base g' lam Pr N (reF t (.om t' es) F) L ((A.Bh t).BV t') a w0 w'->o.dst=none->K (reF t (.om t' es) F) L ((A.Bh t).BV t')->o.wp P a w (FH base Pr N w0 g w K) Q:=by
        intro g' w' t t' es R h9 h8 hf G hk
        have:(execOp a.eval o).run P w= .ok .skip w':=by
         unfold execOp;simp only [p,Sem.run_bind,R,Result.andThen_ok,Sem.run_pure]
        unfold Oper.wp;rw [this];show FH base Pr N w0 g w K (a.put o.dst DJ) w';rw [G];exact ⟨g',lam,_,L,_,h9,h8,hf,hk⟩
       cases hp:NH P k with
       |false=>
        rw [hp] at j f;obtain ⟨G,t,ht,es,n,x0,e1,e2,e3,hb,hk⟩:=j;have h1:=(Aq l h).vr (by rw [e1];rfl);have h2:=(Aq D h).vr (by rw [e2];rfl);have h3:=(Aq T h).vr (by rw [e3];rfl)
        grind [AIJ,bG]
       |true=>
        rw [hp] at j;obtain ⟨G,t,ht,es,n,x0,e1,e2,e3,hb,hk⟩:=j;have h1:=(Aq l h).vr (by rw [e1];rfl);have h2:=(Aq D h).vr (by rw [e2];rfl);have h3:=(Aq T h).vr (by rw [e3];rfl)
        grind [ANL]
     . cases d
   . cases d
 . rename_i cl p;obtain ⟨callee,⟨args⟩,⟨argTypes⟩⟩:=cl;simp only at d;split at d
   . rename_i b;unfold APY at d;split at d
     . rename_i s x t u;simp only [AF] at d;obtain ⟨e,he,i,hi,d⟩:=d;split at d
       . split at d
         . rename_i f;obtain ⟨rfl,h0,h7,T⟩:=f;obtain ⟨z0,ha,h6⟩:=AO.1 T;simp only [AF,AO] at d;obtain ⟨U,S,q,l,rfl⟩:=d;have j:[xv F U,xv F q].all I.BS=true/\ExR A (fun v H=>K (BW o.dst v F) L H) (.zV e i.size) [xv F U,xv F q]:=j;have r:=j.1;simp only [BK,Cl,Cu,AM] at r;exact fE (fun z w' B=>by unfold execOp;simp [p,resolve,invoke,builtin,B]) E (AG1 (ty:=o.type) (Mx he) hi h ((Aq S h).vr r.1) ((Aq l h).vr r.2) j.2 h0 ha h6 h7)
         . cases d
       simp only [AF] at d;obtain ⟨z,hz,d⟩:=d;split at d
       . rename_i Y;split at d
         . split at d
           . rename_i f;obtain ⟨h1,h2,h3⟩:=f;simp only [AF,AO] at d;obtain ⟨U,S,q,l,rfl⟩:=d;have j:[xv F U,xv F q].all I.BS=true/\ExR A (fun v H=>K (BW o.dst v F) L H) (.apps e) [xv F U,xv F q]:=j;have r:=j.1;simp only [BK,Cl,Cu,AM] at r;exact fE (fun z w' B=>by unfold execOp;simp [p,resolve,invoke,builtin,B]) E (AG0 (ty:=o.type) (Mx he) Y hi hz h1 h2 h ((Aq S h).vr r.1) ((Aq l h).vr r.2) j.2)
           . cases d
         . cases d
       . cases d
     . rename_i x t;split at d
       . rename_i e Y;simp only [AO] at d;obtain ⟨q,l,rfl⟩:=d;obtain ⟨v,Z,hk⟩:=ALI (show XPv (exP .usd [xv F q]) o.dst K F L A from j);obtain ⟨r,Z⟩:=AJ4 Z;exact AaC (fun z w' B=>by unfold execOp;simp [p,resolve,invoke,builtin,B]) E h (AOT (ts:=#[t]) (ty:=o.type) ((Aq l h).vr (by grind)) Z) hk
       . cases d
     . rename_i x y pt it;split at d
       . rename_i e Y;split at d
         . rename_i f;simp only [AF,AO] at d;obtain ⟨U,S,q,l,rfl⟩:=d;have j:[xv F U,xv F q].all I.BS=true/\ExR A (fun v H=>K (BW o.dst v F) L H) (.AJG e) [xv F U,xv F q]:=j;have r:=j.1;simp only [BK,Cl,Cu,AM] at r;exact fE (fun z w' B=>by unfold execOp;simp [p,resolve,invoke,builtin,B]) E (AJH (it:=it) (ty:=o.type) Y f.2 h ((Aq S h).vr r.1) ((Aq l h).vr r.2) j.2)
         . cases d
       . cases d
     . rename_i x t;split at d
       . rename_i k e hm;simp only [AO] at d;obtain ⟨q,l,rfl⟩:=d;have j:[xv F q].all I.BS=true/\ExR A (fun v H=>K (BW o.dst v F) L H) .AIH [xv F q]:=j;exact fE (fun z w' B=>by unfold execOp;simp [p,resolve,invoke,builtin,B]) E (AE5 (ty:=o.type) hm h ((Aq l h).vr (by grind)) j.2)
       . cases d
     . cases d
   . cases d
 . cases d
def AHF (P:Program) (sh im lc:Bool) (op:Op):Option Q06:=
 match APX P sh im op with
 |some c=>some c
 |none=>xP P sh im lc op
def uA {sh im:Bool} (b:AHF P sh im lc o.op=some c) (d:∀k,o.dst=some k->k < N) {K:CV} (e:XO P o.dst K F L A c)
 (h:Bu base g lam Pr N F L A a w0 w) {Q:Exit->Act->World->Prop}:o.wp P a w (FH base Pr N w0 g w K) Q:=by
 grind [AHF,AOW,AGE]
def xQ (P:Program) (N:Nat) (esc:List Nat) (ops:Array Oper) (o:Oper):Option Q:=do
 let c <- AHF P (o.dst.any esc.contains) (o.dst.any fun d=>esc.contains (d+100000)) (o.dst.any fun d=>esc.contains (d+300000)) o.op
 if o.dst.all (· < N) then
  match o.guard with
  |none=>some ⟨o.dst,c,none⟩
  |some (j,want)=>do
   let s <- (ops[j]?).bind (·.dst)
   if s < N then some ⟨o.dst,c,some (s,want)⟩ else none
                                      else none
def QO (P:Program) (N:Nat) (esc:List Nat) (ops:Array Oper):List Nat->Option (List Q)
 |[]=>some []
 |i::l=>do
  let o <- ops[i]?
  let q <- xQ P N esc ops o
  some (q::(<- QO P N esc ops l))
def gdV (want:Bool):I->Option Bool
 | .d (.bool b)=>some (b==want)
 | .tup []=>some false
 |_=>none
def gd (F:Fm):Option (Nat×Bool)->Option Bool
 |none=>some true
 |some (s,want)=>gdV want (F s)
def XG (c:Option Bool) (yes no:Prop):Prop:=
 match c with
 |some true=>yes
 |some false=>no
 |none=>False
def XQ (P:Program) (q:Q) (K:CV) (F:Fm) (L:Lm) (A:X):Prop:=
 XG (gd F q.grd) (XO P q.dst K F L A q.o) (K (BW q.dst (.tup []) F) L A)
def Bm (P:Program) (K:CV):List Q->CV
 |[]=>K
 |q::rest=>XQ P q (Bm P K rest)
def AGF {esc:List Nat} {i:Nat} {q:Q} (ho:ops[i]?=some o) (e:xQ P N esc ops o=some q) {K:CV} (f:XQ P q K F L A)
 (h:Bu base g lam Pr N F L A a w0 w) {Q:Exit->Act->World->Prop}:wpOp P ops Q i (FH base Pr N w0 g w K) a w:=by
 simp only [xQ,AX,AF] at e;obtain ⟨c,u,e⟩:=e;split at e
 case isFalse=>cases e
 rename_i T;have B:∀k,o.dst=some k->k < N:=fun k hk=>by grind
 have skip:K (BW o.dst (.tup []) F) L A->FH base Pr N w0 g w K (a.put o.dst DJ) w:=fun f=>
  ⟨g,lam,_,L,A,Gh.le_refl g,KP.refl Pr w,h.BW B (SV.FT (x:= .tup []) (v:=DJ) (VR.tup (cs:=[]) (vs:=[]) rfl (by simp))),f⟩
 simp only [wpOp,ho];cases l:o.guard with
 |none=>
  rw [l] at e;simp only [AP] at e;subst e;have f:XO P o.dst K F L A c:=f;have t:Region.wanted o (yielded ops a.tmps)=true:=by simp [Region.wanted,l]
  simp only [t,if_true];exact .inl (uA u B f h)
 |some U=>
  obtain ⟨j,r⟩:=U;rw [l] at e;simp only [AF] at e;obtain ⟨s,hs,e⟩:=e;split at e
  case isFalse=>cases e
  rename_i G;cases e;simp only [XQ,gd] at f
  have R:a.tmps[s]?=some (a.tmps.getD s DJ):=by
   have:s < a.tmps.size:=by rw [h.sz];exact G
   simp [this]
  have n:=h.tm s
  have p:∀v,a.tmps.getD s DJ=v->yielded ops a.tmps j=match v with| .bool b=>some b|_=>none:=by
   intro v hv;unfold yielded;obtain ⟨oj,E,D⟩:=hs;simp only [E,Jt,D,R,hv];cases v<;>rfl
  generalize S:a.tmps.getD s DJ=vv at n;have y:=p vv S;generalize Y:F s=fs at n f;unfold gdV at f;split at f
  . rename_i b;cases n with
    |@d _ _ Z=>
     cases Z with
     |bool=>
      simp only at y;by_cases m:b=r
      . have t:Region.wanted o (yielded ops a.tmps)=true:=by simp [Region.wanted,l,y,m]
        simp only [t,if_true];simp only [m,BEq.rfl,XG] at f;exact .inl (uA u B f h)
      . have t:Region.wanted o (yielded ops a.tmps)=false:=by simp [Region.wanted,l,y,m]
        have z:(b==r)=false:=by simp [m]
        simp only [t,As,if_false];simp only [z,XG] at f
        grind
  . cases n with
    |tup hl _=>
     simp only at y;have t:Region.wanted o (yielded ops a.tmps)=false:=by simp [Region.wanted,l,y]
     simp only [t,As,if_false];exact skip f
  . exact f.elim
def uB (P:Program) (ops:Array Oper) (N:Nat) (esc:List Nat) (K:CV) {Q:Exit->Act->World->Prop}:∀(l:List Nat) (qs:List Ab.Q) (base:Nat) (g:Gh) (lam:Nat->Option Nat) (Pr:Nat->Prop) (F:Fm) (L:Lm) (A:X) (a:Act) (w0 w:World),
 QO P N esc ops l=some qs->Bm P K qs F L A->Bu base g lam Pr N F L A a w0 w->(∀a' w',FH base Pr N w0 g w K a' w'->Q .normal a' w')->wpOps P ops Q l a w
 |[],qs,base,g,lam,Pr,F,L,A,a,w0,w,hc,hx,h,hQ=>by
  simp only [QO,AP] at hc;subst hc;exact hQ _ _ ⟨g,lam,F,L,A,Gh.le_refl g,KP.refl Pr w,h,hx⟩
 |i::l,qs,base,g,lam,Pr,F,L,A,a,w0,w,hc,hx,h,hQ=>by
  simp only [QO,AX,AF] at hc;obtain ⟨o,ho,q,hq,qs',hqs,he⟩:=hc;cases he;rw [wpOps_cons];refine wpOp_mono ?_ (AGF ho hq hx h);rintro a' w' ⟨g',lam',F',L',H,h1,h2,h3,h4⟩;exact uB P ops N esc K l qs' base g' lam' Pr F' L' H a' w0 w' hqs h4 h3 (fun a2 w2 hA=>hQ _ _ (FH.trans h1 h2 hA))
end
variable {K':CV}
section
variable {P:Program} {base N:Nat} {g g':Gh} {Pr:Nat->Prop} {A H:X} {w0 w w':World} {lam:Nat->Option Nat} {F:Fm} {L:Lm} {a:Act}
def isV:Q06->Bool
 | .box _ _| .al _ _| .st _ _ _| .msl _ _ _ _ _ _| .app _ _ _ _ _| .call _ _| .Z9 _ _| .uO _ _ _ _ _| .trn _ _| .lT _ _ _ _ _| .eK _ _ _ _=>false
 | .ex k _=>k.pure
 |_=>true
def y8:Q06->Bool
 | .ld _ _| .sO _ _| .ldl _ _=>false
 |o=>isV o
def ARO:Q06->Bool
 | .ldl _ _=>true
 |o=>y8 o
def ABM:Q06->Bool
 | .st _ _ _| .eK _ _ _ _=>false
 | .box _ sh| .al _ sh=>sh
 |_=>true
def lG:Q06->Bool
 | .box _ sh| .al _ sh=>sh
 | .eK _ _ _ _=>false
 |_=>true
def TW:Q09->List Nat
 | .t n=>[n]
 | .c _=>[]
def AFX (l:List Q09):List Nat:=l.flatMap TW
def zK:Option Q09->List Nat
 |none=>[]
 |some x=>TW x
def Ly:Q06->List Nat
 | .mv x| .fld x _| .ld x _| .len x| .AOD x| .un _ x| .conv _ x| .ext x _| .nck x| .box x _| .ldl x _| .fd x _ _| .AIS _ x| .APL x=>TW x
 | .ssl x lo hi=>TW x++zK lo++zK hi
 | .sls x lo hi mx _=>TW x++zK lo++zK hi++zK mx
 | .mm3 _ x y z| .eK _ x y z=>TW x++TW y++TW z
 | .AOJ _ _ x y=>TW x++TW y
 | .pick x y z=>TW x++TW y++TW z
 | .ix x y _| .AS4 x y| .bin _ x y| .APJ _ x y| .mm _ x y| .st x y _| .msl _ _ _ _ x y| .app _ _ _ x y| .uO _ _ _ x y| .trn x y=>TW x++TW y
 | .bld _ ps| .bsl _ _ _ ps| .lT _ _ _ _ ps=>ps.flatMap fun p=>TW p.2.2
 | .mkf _ x y=>AFX x++AFX y
 | .al _ _=>[]
 | .call _ args| .sO _ args| .ex _ args=>AFX args
 | .Z9 x args=>TW x++AFX args
def Q.looks (q:Q):List Nat:=Ly q.o++(match q.grd with|some (s,_)=>[s]|none=>[])
theorem Bc {F:Fm} (h:∀s∈TW x,F s=F' s):xv F x=xv F' x:=by
 cases x with
 |t n=>exact h n (by simp [TW])
 |c v=>rfl
def Uz {F:Fm} {x:Option Q09} (h:∀s∈zK x,F s=F' s):x.map (xv F)=x.map (xv F'):=by
 cases x with
 |none=>rfl
 |some x=>simp only [Ap];rw [Bc h]
theorem LY {F:Fm} {l:List Q09} (h:∀s∈AFX l,F s=F' s):xvs F l=xvs F' l:=by
 unfold xvs;refine Gk fun x b=>Bc fun s a=>h s ?_;exact List.mem_flatMap.2 ⟨x,b,a⟩
def Rz {F F':Fm}:∀(a:List (Nat×Nat×Q09)) (z:List I),(∀s∈a.flatMap (fun p=>TW p.2.2),F s=F' s)->LA z F a=LA z F' a
 |[],z,_=>rfl
 |(off,n,x)::a,z,h=>by
  have e:xv F x=xv F' x:=Bc fun s b=>h s (by simp [b]);simp only [LA,e];rw [Rz a _ (fun s b=>h s (by simp only [G9,A2];exact .inr b))]
def ASN {F:Fm} {o:Q06} (h:∀s∈Ly o,F s=F' s):pv F L A o=pv F' L A o:=by
 cases o<;>simp only [Ly,A2] at h<;>simp only [pv]<;>first
  |rw [Bc h]
  |rw [Bc (fun s a=>h s (.inl (.inl (.inl a)))),Uz (fun s a=>h s (.inl (.inl (.inr a)))),Uz (fun s a=>h s (.inl (.inr a))),Uz (fun s a=>h s (.inr a))]
  |rw [Bc (fun s a=>h s (.inl (.inl a))),Uz (fun s a=>h s (.inl (.inr a))),Uz (fun s a=>h s (.inr a))]
  |rw [Bc (fun s a=>h s (.inl a)),Bc (fun s a=>h s (.inr a))]
  |rw [Bc (fun s a=>h s (.inl (.inl a))),Bc (fun s a=>h s (.inl (.inr a))),Bc (fun s a=>h s (.inr a))]
  |rw [Rz _ _ h]
  |grind
  |grind [LY]
  |rfl
def AV9 {o:Q06} (h:y8 o=true) (L':Lm) (H:X):pv F L A o=pv F L' H o:=by
 cases o<;>first|rfl|(cases h;done)
def AZO {o:Q06} (h:ARO o=true) (H:X):pv F L A o=pv F L H o:=by
 cases o<;>first|rfl|(cases h;done)
def Yv (P:Program) (F:Fm) (L:Lm) (A:X) (v:I):Q06->Prop
 | .sO f args=>(xvs F args).all I.BS=true/\v.BS=true/\AS P f (xvs F args) A (fun v' H=>v'=v/\H=A)
 |o=>pv F L A o=some v
theorem oK {F:Fm} {v:I} {o:Q06} (h:∀s∈Ly o,F s=F' s) (a:Yv P F L A v o):Yv P F' L A v o:=by
 cases o<;>first
  |(simp only [Yv] at a ⊢;rw [<- ASN h];exact a)
  |grind [Yv,Ly,LY]
def AUE {v:I} {o:Q06} (h:y8 o=true) (L':Lm) (H:X) (a:Yv P F L A v o):Yv P F L' H v o:=by
 cases o<;>first|(cases h;done)|(simp only [Yv] at a ⊢;rw [<- AV9 h L' H];exact a)
def AYE {v:I} {o:Q06} (h:ARO o=true) (H:X) (a:Yv P F L A v o):Yv P F L H v o:=by
 cases o<;>first|(cases h;done)|(simp only [Yv] at a ⊢;rw [<- AZO h H];exact a)
theorem ALR {o:Q06} (h:isV o=true) (dst:Option Nat) (K:CV):XO P dst K F L A o↔∃v,Yv P F L A v o/\K (BW dst v F) L A:=by
 cases o<;>try (cases h;done)
 case sO f args=>
  grind [XO,APA,Yv]
 case ex k d=>
  have h:k.pure=true:=h;simp only [XO,XEx,h,if_true,Yv,pv];constructor
  . grind [ALI]
  . rintro ⟨v,a,c⟩;rw [a];exact c
 all_goals
  simp only [XO,Yv];constructor
  . intro b;unfold XPv at b;split at b
    . rename_i v a;exact ⟨v,a,b⟩
    . exact b.elim
  . rintro ⟨v,a,c⟩;rw [a];exact c
def YQ (P:Program) (q:Q) (F:Fm) (L:Lm) (A:X) (v:I):Prop:=XG (gd F q.grd) (Yv P F L A v q.o) (v= .tup [])
def qU {F:Fm} {q:Q} (h:∀s∈q.looks,F s=F' s):gd F q.grd=gd F' q.grd:=by
 grind [gd,Q.looks]
theorem oJ {F:Fm} {q:Q} {v:I} (h:∀s∈q.looks,F s=F' s) (a:YQ P q F L A v):YQ P q F' L A v:=by
 have d:∀s∈Ly q.o,F s=F' s:=fun s e=>h s (by simp [Q.looks,e]);unfold YQ at a ⊢;rw [<- qU h];cases c:gd F q.grd with
 |none=>rw [c] at a;exact a.elim
 |some b=>rw [c] at a;cases b<;>first|exact a|exact oK d a
def AUD {q:Q} {v:I} (h:y8 q.o=true) (L':Lm) (H:X) (a:YQ P q F L A v):YQ P q F L' H v:=by
 unfold YQ at a ⊢;cases c:gd F q.grd with
 |none=>rw [c] at a;exact a.elim
 |some b=>rw [c] at a;cases b<;>first|exact a|exact AUE h L' H a
def AYD {q:Q} {v:I} (h:ARO q.o=true) (H:X) (a:YQ P q F L A v):YQ P q F L H v:=by
 unfold YQ at a ⊢;cases c:gd F q.grd with
 |none=>rw [c] at a;exact a.elim
 |some b=>rw [c] at a;cases b<;>first|exact a|exact AYE h H a
theorem APB {q:Q} (h:isV q.o=true) (K:CV):XQ P q K F L A↔∃v,YQ P q F L A v/\K (BW q.dst v F) L A:=by
 unfold XQ YQ;cases d:gd F q.grd with
 |none=>exact ⟨fun a=>a.elim,fun ⟨_,c,_⟩=>c.elim⟩
 |some b=>
  cases b
  . exact ⟨fun a=>⟨_,rfl,a⟩,fun ⟨v,c,a⟩=>by have c:v= .tup []:=c;subst c;exact a⟩
  . exact ALR h q.dst K
def AUC {o:Q06} {K:CV} (D:lG o=true) (m:∀u L' H,K (BW dst u F) L' H->K' (BW dst u F) L' H) (a:XO P dst K F L A o):XO P dst K' F L A o:=by
 have Z:dst=none->∀L' H,K F L' H->K' F L' H:=fun U L' H h=>by have:=m .undef L' H;rw [U] at this;exact this h
 by_cases Q:isV o=true
 . grind [ALR]
 . cases o<;>simp only [isV,not_true_eq_false] at Q
   case box x sh=>
    simp only [XO,ZD] at a ⊢;refine ⟨a.1,?_⟩;have a:=a.2;cases dst with
    |none=>grind
    |some d=>
     cases sh with
     |true=>exact fun i E=>m (.gp i 0) _ _ (a i E)
     |false=>cases D
   case al z sh=>
    simp only [XO,ZD] at a ⊢;refine ⟨a.1,?_⟩;have a:=a.2;cases dst with
    |none=>grind
    |some d=>
     cases sh with
     |true=>exact fun i E=>m (.gp i 0) _ _ (a i E)
     |false=>cases D
   case st x v n=>
    grind [XO,XSt]
   case msl e s b z l c=>
    obtain ⟨k,Y,n,j,g,p,w,q,B⟩:=a;exact ⟨k,Y,n,j,g,p,w,q,fun i E=>m _ _ _ (B i E)⟩
   case uO e s b x y=>
    obtain ⟨n,cs,σ1,srows,j,g,p,w,q,B,N⟩:=a;exact ⟨n,cs,σ1,srows,j,g,p,fun e=>m _ _ _ (w e),q,B,fun e t r=>m _ _ _ (N e t r)⟩
   case trn x y=>
    obtain ⟨k,s,e,cs,σ1,j,g⟩:=a;exact ⟨k,s,e,cs,σ1,j,fun t r=>m _ _ _ (g t r)⟩
   case lT e s l z ps=>
    obtain ⟨cs,j,g⟩:=a;exact ⟨cs,j,g.imp (fun g t r=>m _ _ _ (g t r)) fun ⟨ds,p,q⟩=>⟨ds,p,fun t r=>m _ _ _ (q t r)⟩⟩
   case app e s b x y=>
    rcases a with ⟨rows,σ1,srows,j,g,p,w,q,B⟩|⟨rows,srows,j,g,p,w,q,B,N⟩
    . exact .inl ⟨rows,σ1,srows,j,g,p,w,q,fun t r=>m _ _ _ (B t r)⟩
    . exact .inr ⟨rows,srows,j,g,p,w,q,B,m _ _ _ N⟩
   case call f args=>
    obtain ⟨j,R,g,p⟩:=a;exact ⟨j,R,g,fun v H G=>m _ _ _ (p v H G)⟩
   case Z9 x args=>
    obtain ⟨f,first,Ae,S,T,j,R,g,p⟩:=a;exact ⟨f,first,Ae,S,T,j,R,g,fun v H G=>m _ _ _ (p v H G)⟩
   case eK s x y z=>cases D
   case ex k xs=>
    simp only [XO,XEx,Q,As,if_false] at a ⊢;exact ⟨a.1,a.2.mono fun v H _ G=>m _ _ _ G⟩
theorem AJR {q:Q} {K:CV} (c:lG q.o=true) (e:∀u L' H,K (BW q.dst u F) L' H->K' (BW q.dst u F) L' H) (a:XQ P q K F L A):XQ P q K' F L A:=by
 unfold XQ at a ⊢;cases d:gd F q.grd with
 |none=>rw [d] at a;exact a.elim
 |some b=>rw [d] at a;cases b<;>first|exact e _ _ _ a|exact AUC c e a
def AO9 {o:Q06} {K:CV} (r:ABM o=true) (m:∀u H,K (BW dst u F) L H->K' (BW dst u F) L H) (a:XO P dst K F L A o):XO P dst K' F L A o:=by
 by_cases N:isV o=true
 . grind [ALR]
 . cases o<;>simp only [isV,not_true_eq_false] at N
   case box x sh=>
    simp only [XO,ZD] at a ⊢;refine ⟨a.1,?_⟩;have a:=a.2;cases dst with
    |none=>grind
    |some d=>
     cases sh with
     |true=>exact fun i D=>m (.gp i 0) _ (a i D)
     |false=>cases r
   case al z sh=>
    simp only [XO,ZD] at a ⊢;refine ⟨a.1,?_⟩;have a:=a.2;cases dst with
    |none=>grind
    |some d=>
     cases sh with
     |true=>exact fun i D=>m (.gp i 0) _ (a i D)
     |false=>cases r
   case st x v n=>cases r
   case msl e s b z l c=>
    obtain ⟨k,T,n,h,g,j,w,p,B⟩:=a;exact ⟨k,T,n,h,g,j,w,p,fun i D=>m _ _ (B i D)⟩
   case uO e s b x y=>
    obtain ⟨n,cs,σ1,srows,h,g,j,w,p,B,G⟩:=a;exact ⟨n,cs,σ1,srows,h,g,j,fun e=>m _ _ (w e),p,B,fun e t q=>m _ _ (G e t q)⟩
   case trn x y=>
    obtain ⟨k,s,e,cs,σ1,h,g⟩:=a;exact ⟨k,s,e,cs,σ1,h,fun t q=>m _ _ (g t q)⟩
   case lT e s l z U=>
    obtain ⟨cs,h,g⟩:=a;exact ⟨cs,h,g.imp (fun g t q=>m _ _ (g t q)) fun ⟨ds,j,p⟩=>⟨ds,j,fun t q=>m _ _ (p t q)⟩⟩
   case app e s b x y=>
    rcases a with ⟨rows,σ1,srows,h,g,j,w,p,B⟩|⟨rows,srows,h,g,j,w,p,B,G⟩
    . exact .inl ⟨rows,σ1,srows,h,g,j,w,p,fun t q=>m _ _ (B t q)⟩
    . exact .inr ⟨rows,srows,h,g,j,w,p,B,m _ _ G⟩
   case call f args=>
    obtain ⟨h,R,g,j⟩:=a;exact ⟨h,R,g,fun v H E=>m _ _ (j v H E)⟩
   case Z9 x args=>
    obtain ⟨f,first,Ae,Q,S,h,R,g,j⟩:=a;exact ⟨f,first,Ae,Q,S,h,R,g,fun v H E=>m _ _ (j v H E)⟩
   case eK s x y z=>cases r
   case ex k Y=>
    simp only [XO,XEx,N,As,if_false] at a ⊢;exact ⟨a.1,a.2.mono fun v H _ E=>m _ _ E⟩
def APC {q:Q} {K:CV} (c:ABM q.o=true) (e:∀u H,K (BW q.dst u F) L H->K' (BW q.dst u F) L H) (a:XQ P q K F L A):XQ P q K' F L A:=by
 unfold XQ at a ⊢;cases d:gd F q.grd with
 |none=>rw [d] at a;exact a.elim
 |some b=>rw [d] at a;cases b<;>first|exact e _ _ a|exact AO9 c e a
def jR {d e:Option Nat} (h:∀k,d=some k->e≠some k) (u v:I) (F:Fm):BW d u (BW e v F)=BW e v (BW d u F):=by
 cases d with
 |none=>rfl
 |some d=>
  cases e with
  |none=>rfl
  |some e=>
   have b:d≠e:=fun a=>h d rfl (a ▸ rfl);funext s;simp only [BW,put]
   grind
def ABL {d:Option Nat} {s:Nat} (h:d≠some s) (v:I) (F:Fm):BW d v F s=F s:=by
 cases d with
 |none=>rfl
 |some d=>simp only [BW,put];grind
def AX9 {o:Q06} {d:Option Nat} {v:I} {K:CV} (m:lG o=true) (T:∀s∈Ly o,d≠some s) (S:∀k,dst=some k->d≠some k)
 (a:XO P dst K (BW d v F) L A o):XO P dst (fun F L A=>K (BW d v F) L A) F L A o:=by
 have G:∀u,BW dst u (BW d v F)=BW d v (BW dst u F):=fun u=>jR S u v F;have w:∀s∈Ly o,BW d v F s=F s:=fun s D=>ABL (T s D) v F;by_cases E:isV o=true
 . grind [ALR,oK,BW]
 . cases o<;>simp only [isV,not_true_eq_false] at E<;>simp only [Ly,A2] at w
   case box x sh=>
    cases sh<;>simp only [lG] at m
    . cases m
    simp only [XO,ZD] at a ⊢;rw [<- Bc w];refine ⟨a.1,?_⟩;have a:=a.2;cases dst with
    |none=>grind
    |some e=>exact fun i B=>(by show K (BW d v (BW (some e) (.gp i 0) F)) _ _;rw [<- G (.gp i 0)];exact a i B)
   case al z sh=>
    cases sh<;>simp only [lG] at m
    . cases m
    simp only [XO,ZD] at a ⊢;refine ⟨a.1,?_⟩;have a:=a.2;cases dst with
    |none=>grind
    |some e=>exact fun i B=>(by show K (BW d v (BW (some e) (.gp i 0) F)) _ _;rw [<- G (.gp i 0)];exact a i B)
   case st x y n=>
    grind [XO,XSt,Bc,stA,xv,BW]
   case uO e s b x y=>
    obtain ⟨n,cs,σ1,srows,h,g,j,q,p,r,N⟩:=a;refine ⟨n,cs,σ1,srows,by grind [Bc],by grind [Bc],j,fun e=>?_,p,r,fun e t m=>?_⟩
    . grind [BW,Bc]
    grind
   case trn x y=>
    obtain ⟨k,s,e,cs,σ1,h,g⟩:=a;refine ⟨k,s,e,cs,σ1,by grind [Bc],fun t m=>?_⟩
    grind
   case lT e s l z ps=>
    obtain ⟨cs,h,g⟩:=a;refine ⟨cs,by rw [<- Rz _ _ w];exact h,g.imp (fun g t m=>?_) fun ⟨ds,j,p⟩=>⟨ds,j,fun t m=>?_⟩⟩
    . grind
    grind
   case msl e s b z l c=>
    obtain ⟨k,Y,n,h,g,j,q,p,r⟩:=a;refine ⟨k,Y,n,by grind [Bc],by grind [Bc],j,q,p,fun i B=>?_⟩
    grind
   case app e s b x y=>
    rcases a with ⟨rows,σ1,srows,h,g,j,q,p,r⟩|⟨rows,srows,h,g,j,q,p,r,N⟩
    . refine .inl ⟨rows,σ1,srows,by grind [Bc],by grind [Bc],j,q,p,fun t m=>?_⟩
      grind
    . refine .inr ⟨rows,srows,by grind [Bc],by grind [Bc],j,q,p,r,?_⟩
      grind
   case call f args=>
    obtain ⟨h,R,g,j⟩:=a;rw [LY w] at h g;refine ⟨h,R,g,fun u H U=>?_⟩
    grind
   case Z9 x args=>
    obtain ⟨f,first,Ae,Z,Q,h,R,g,j⟩:=a;rw [LY (fun s D=>w s (.inr D))] at h g;refine ⟨f,first,Ae,by grind [Bc],Q,h,R,g,fun u H U=>?_⟩
    grind
   case eK s x y z=>cases m
   case ex k xs=>
    simp only [XO,XEx,E,As,if_false] at a ⊢
    grind [LY,BW]
def AYB {q:Q} {d:Option Nat} {v:I} {K:CV} (i:lG q.o=true) (g:∀s∈q.looks,d≠some s) (f:∀k,q.dst=some k->d≠some k)
 (a:XQ P q K (BW d v F) L A):XQ P q (fun F L A=>K (BW d v F) L A) F L A:=by
 have h:∀s∈Ly q.o,d≠some s:=fun s c=>g s (by simp [Q.looks,c]);unfold XQ at a ⊢;rw [qU (F:=BW d v F) (F':=F) (fun s c=>ABL (g s c) v F)] at a;cases e:gd F q.grd with
 |none=>rw [e] at a;exact a.elim
 |some b=>
  rw [e] at a;cases b
  . have a:K (BW q.dst (.tup []) (BW d v F)) L A:=a;show K (BW d v (BW q.dst (.tup []) F)) L A;rw [<- jR f];exact a
  . exact AX9 i h f a
end
section
variable {P:Program} {base N:Nat} {g g':Gh} {Pr:Nat->Prop} {A H:X} {w0 w w':World} {lam:Nat->Option Nat} {F:Fm} {L:Lm} {a:Act}
def fS (P:Program) (ops:Array Oper) (qs:List Q) (K:CV):Nat->Array Bool->CV
 |0,listed,F,L,A=>Region.ready .any ops listed=[]/\K F L A
 |fuel+1,listed,F,L,A=>(Region.ready .any ops listed=[]->K F L A)/\
  ∀i∈Region.ready .any ops listed,∃q,qs[i]?=some q/\XQ P q (fS P ops qs K fuel (listed.setIfInBounds i true)) F L A
def toP (pf:List FuncId) (q:Q):Q:=
 match q.o with
 | .call f args=>if pf.contains f then { q with o:= .sO f args} else q
 |_=>q
def AOM {pf:List FuncId} {q:Q} {K:CV} (h:XQ P (toP pf q) K F L A):XQ P q K F L A:=by
 obtain ⟨dst,o,a⟩:=q;cases o<;>try exact h
 rename_i f args;simp only [toP] at h;split at h
 . unfold XQ at h ⊢;simp only at h ⊢;cases c:gd F a with
   |none=>rw [c] at h;exact h.elim
   |some b=>
    rw [c] at h;cases b
    . exact h
    . obtain ⟨d,v,⟨_,e⟩,j⟩:=h;exact ⟨d,_,e,fun k H ⟨g,i⟩=>by grind⟩
 . exact h
def xO {ops:Array Oper} {esc:List Nat}:∀(l:List Nat) (qs:List Q),QO P N esc ops l=some qs->∀(k i:Nat),l[k]?=some i->∃o q,ops[i]?=some o/\qs[k]?=some q/\xQ P N esc ops o=some q
 |[],_,_,k,i,a=>by simp at a
 |j::l,qs,h,k,i,a=>by
  simp only [QO,AX,AF] at h;obtain ⟨o,e,q,f,c,b,d⟩:=h;cases d;cases k with
  |zero=>grind
  |succ k=>simpa using xO l c b k i (by simpa using a)
def bX {ops:Array Oper} {esc:List Nat} {pf:List FuncId} {qs:List Q} (m:QO P N esc ops (Aj ops.size)=some qs) (K:CV) {R:Exit->Act->World->Prop}:
 ∀(fuel:Nat) (listed:Array Bool) (base:Nat) (g:Gh) (lam:Nat->Option Nat) (Pr:Nat->Prop) (F:Fm) (L:Lm) (A:X) (a:Act) (w0 w:World),
  fS P ops (qs.map (toP pf)) K fuel listed F L A->Bu base g lam Pr N F L A a w0 w->(∀e w',FH base Pr N w0 g w K e w'->R .normal e w')->wpAny P .any ops R fuel listed a w
 |0,listed,base,g,lam,Pr,F,L,A,a,w0,w,c,h,f=>⟨c.1,f _ _ ⟨g,lam,F,L,A,Gh.le_refl g,KP.refl Pr w,h,c.2⟩⟩
 |fuel+1,listed,base,g,lam,Pr,F,L,A,a,w0,w,c,h,f=>by
  refine ⟨fun v=>f _ _ ⟨g,lam,F,L,A,Gh.le_refl g,KP.refl Pr w,h,c.1 v⟩,fun i n=>?_⟩;obtain ⟨B,b,l⟩:=c.2 i n
  have k:i < ops.size:=by
   have:=(List.mem_filter.1 n).1;simpa using this
  obtain ⟨o,q,x,y,j⟩:=xO (Aj ops.size) qs m i i (by simp [k]);rw [Az,y] at b;cases b;refine wpOp_mono ?_ (AGF x j (AOM l) h);rintro e w' ⟨g',d,F',L',H,p,r,s,t⟩;exact bX m K fuel _ base g' d Pr F' L' H e w0 w' t s (fun z D u=>f _ _ (FH.trans p r u))
inductive Anc (ops:Array Oper):Nat->Nat->Prop
 |one {j:Nat} {o:Oper} {e:Edge} (ho:ops[j]?=some o) (he:e∈o.after) (hb:Region.binds .any e=true):Anc ops j e.on
 |step {j i:Nat} {o:Oper} {e:Edge} (ho:ops[j]?=some o) (he:e∈o.after) (hb:Region.binds .any e=true) (h:Anc ops e.on i):Anc ops j i
def ABA (acc:Array Nat) (l:List Edge):Nat:=l.foldl (fun s e=>if Region.binds .any e then s|||2 ^ e.on|||acc.getD e.on 0 else s) 0
def fX:List Oper->Array Nat->Array Nat
 |[],acc=>acc
 |o::l,acc=>fX l (acc.push (ABA acc o.after.toList))
def La (ops:Array Oper) (listed:Array Bool):Prop:=
 ∀j o,ops[j]?=some o->listed.getD j false=true->∀e∈o.after,Region.binds .any e=true->listed.getD e.on false=true
def oP (l:La ops listed) {i:Nat} (h:Anc ops j i):(∀o,ops[j]?=some o->∀e∈o.after,Region.binds .any e=true->listed.getD e.on false=true)->listed.getD i false=true:=by
 induction h with
 |one g f d=>grind
 |step g f d _ n=>exact fun m=>n fun o' c k b a=>l _ o' c (m _ g _ f d) k b a
def sC {acc:Array Nat} (a:∀k i,(acc.getD k 0).testBit i=true->Anc ops k i) (g:ops[j]?=some o):
 ∀(l:List Edge) (s:Nat),(∀e∈l,e∈o.after)->(∀i,s.testBit i=true->Anc ops j i)->
  ∀i,(l.foldl (fun s e=>if Region.binds .any e then s|||2 ^ e.on|||acc.getD e.on 0 else s) s).testBit i=true->Anc ops j i
 |[],s,_,m,i,c=>m i c
 |e::l,s,f,m,i,c=>by
  simp only [BD] at c;refine sC a g l _ (fun e n=>f e (by simp [n])) ?_ i c;intro p b;by_cases d:Region.binds .any e=true
  . simp only [d,if_true,Nat.testBit_or,EH] at b;rcases b with (h|h)|h
    . grind
    . rw [Nat.testBit_two_pow] at h;have:e.on=p:=by simpa using h
      exact this ▸ .one g (f e (by simp)) d
    . exact .step g (f e (by simp)) d (a _ _ h)
  grind
def cI {ops:Array Oper}:∀(l:List Oper) (a:Array Nat),(∀k,l[k]?=ops[a.size+k]?)->(∀k i,(a.getD k 0).testBit i=true->Anc ops k i)->
 ∀k i,((fX l a).getD k 0).testBit i=true->Anc ops k i
 |[],a,_,h=>h
 |o::l,a,c,h=>by
  have d:ops[a.size]?=some o:=by simpa using (c 0).symm
  refine cI l _ (fun k=>?_) (fun k i b=>?_)
  . have:=c (k+1)
    grind
  . by_cases e:k=a.size
    . subst e;have:(a.push (ABA a o.after.toList)).getD a.size 0=ABA a o.after.toList:=by simp
      rw [this] at b;exact sC h d o.after.toList 0 (fun e f=>by grind) (fun i b=>by simp at b) i b
    . have:(a.push (ABA a o.after.toList)).getD k 0=a.getD k 0:=by
       simp only [HK,Array.getElem?_push,e,if_false]
      grind
def jZ {i:Nat} (h:((fX ops.toList #[]).getD j 0).testBit i=true):Anc ops j i:=
 cI ops.toList #[] (fun k=>by simp) (fun k i a=>by simp at a) j i h
theorem N2 {i:Nat}:i∈Region.ready .any ops listed↔i < ops.size/\listed.getD i true=false/\∃o,ops[i]?=some o/\∀e∈o.after,Region.binds .any e=true->listed.getD e.on false=true:=by
 unfold Region.ready;simp only [List.mem_filter,Cr,AM,Du];constructor
 . rintro ⟨a,b,c⟩;refine ⟨a,b,?_⟩;cases g:ops[i]? with
   |none=>grind
   |some o=>
    refine ⟨o,rfl,fun e f d=>?_⟩
    grind [Array.all_eq_true']
 grind
def qV {i:Nat} (h:i≠j) (d:Bool):(listed.setIfInBounds i true).getD j d=listed.getD j d:=by
 simp_all
theorem iL {i:Nat} (h:listed.getD j false=true):(listed.setIfInBounds i true).getD j false=true:=by
 by_cases e:i=j
 . subst e
   have:i < listed.size:=by
    rcases Ff i listed.size with a|a
    . exact a
    . simp [a] at h
   simp_all
 simp_all
theorem La.set (d:La ops listed) {i:Nat} (h:i∈Region.ready .any ops listed):La ops (listed.setIfInBounds i true):=by
 intro j o g a e f c;by_cases b:i=j
 . grind [N2,iL]
 . rw [qV b] at a;exact iL (d j o g a e f c)
def Uo {i:Nat} (f:j∈Region.ready .any ops listed) (g:i≠j):j∈Region.ready .any ops (listed.setIfInBounds i true):=by
 obtain ⟨a,k,o,h,b⟩:=N2.1 f;exact N2.2 ⟨a,by simp_all,o,h,fun e d c=>iL (b e d c)⟩
def AGY (x y:Q):Bool:=
 (match x.dst with|some d=>!y.looks.contains d&&y.dst != some d|none=>true)&&(match y.dst with|some d=>!x.looks.contains d|none=>true)
def ACT {x y:Q} (h:AGY x y=true):(∀s∈y.looks,x.dst≠some s)/\(∀k,y.dst=some k->x.dst≠some k)/\(∀s∈x.looks,y.dst≠some s):=by
 unfold AGY at h
 grind
def before (tab:Array Nat) (i j:Nat) (qi qj:Q):Bool:=(tab.getD j 0).testBit i||(AGY qi qj&&lG qj.o&&(isV qj.o||y8 qi.o||(ARO qi.o&&ABM qj.o)))
def tY {tab:Array Nat} (B:∀j i,(tab.getD j 0).testBit i=true->Anc ops j i) {qs:List Q} {K:CV} {i:Nat} {qi:Q} (hi:qs[i]?=some qi) (hV:isV qi.o=true):
 ∀(fuel:Nat) (listed:Array Bool) (F:Fm) (L:Lm) (A:X) (v:I),La ops listed->listed.size=ops.size->
  (∀j g,qs[j]?=some g->j≠i->listed.getD j true=false->before tab i j qi g=true)->
  i∈Region.ready .any ops listed->YQ P qi F L A v->fS P ops qs K fuel (listed.setIfInBounds i true) (BW qi.dst v F) L A->fS P ops qs K (fuel+1) listed F L A:=by
 intro fuel
 induction fuel with
 |zero=>
  intro listed F L A v m T hb E Y Q02;refine ⟨fun h=>(by grind),fun j w=>?_⟩;by_cases a:i=j
  . grind [APB]
  . have:=Uo w a;rw [Q02.1] at this;cases this
 |succ fuel ih=>
  intro listed F L A v m T hb E Y Q02;refine ⟨fun h=>(by grind),fun j w=>?_⟩;by_cases a:i=j
  . grind [APB]
  . obtain ⟨g,y,U⟩:=Q02.2 j (Uo w a);obtain ⟨h3,x,oj,h5,S⟩:=N2.1 w;have l:=hb j g y (A5 a) x;have h2:=(N2.1 E).2.1;have h0:=(N2.1 E).1;unfold before at l;simp only [EH,AM] at l;rcases l with q|⟨⟨N,c⟩,t⟩
    . have p:=oP m (B j i q) (fun o ho=>by grind)
      grind
    . obtain ⟨a1,a2,a3⟩:=ACT N;refine ⟨g,y,?_⟩;have f:=AYB c a1 a2 U;have d:=m.set w;have z:i∈Region.ready .any ops (listed.setIfInBounds j true):=Uo E (A5 a)
      have r:∀k Z,qs[k]?=some Z->k≠i->(listed.setIfInBounds j true).getD k true=false->before tab i k qi Z=true:=fun k Z hk h4 h6=>by
       by_cases e:j=k
       . grind
       simp_all
      have R:(listed.setIfInBounds i true).setIfInBounds j true=(listed.setIfInBounds j true).setIfInBounds i true:=Array.setIfInBounds_comm _ _ a;have b:∀u,∀s∈qi.looks,F s=BW g.dst u F s:=fun u s hs=>(ABL (a3 s hs) u F).symm;by_cases G:isV g.o=true
      . grind [APB,oJ]
      . have n:y8 qi.o=true\/(ARO qi.o=true/\ABM g.o=true):=by
         rcases t with (p|p)|p
         . exact absurd p G
         . exact .inl p
         . exact .inr p
        rcases n with D|D
        case inr=>
         refine APC D.2 (fun u H hk=>?_) f;refine ih _ _ _ _ v d (by grind) r z (AYD D.1 H (oJ (b u) Y)) ?_
         grind
        refine AJR c (fun u L' H hk=>?_) f;refine ih _ _ _ _ v d (by grind) r z (AUD D L' H (oJ (b u) Y)) ?_
        grind
def nV (tab:Array Nat) (qs:List Q) (listed:Array Bool) (i:Nat):Bool:=
 match qs[i]? with
 |some qi=>isV qi.o&&(qs.zipIdx.all fun (qj,j)=>j==i||listed.getD j true||before tab i j qi qj)
 |none=>false
def sT (ops:Array Oper) (tab:Array Nat) (qs:List Q):List Nat->Array Bool->Bool
 |[],listed=>(Region.ready .any ops listed).isEmpty
 |i::rest,listed=>(Region.ready .any ops listed).contains i&&(nV tab qs listed i||(Region.ready .any ops listed==[i]&&((qs[i]?).map fun q=>lG q.o).getD false))&&sT ops tab qs rest (listed.setIfInBounds i true)
def yY (qs:List Q) (order:List Nat):List Q:=order.filterMap (qs[·]?)
def zP {ops:Array Oper} {tab:Array Nat} (c:∀j i,(tab.getD j 0).testBit i=true->Anc ops j i) {qs:List Q} {K:CV} (n:qs.length=ops.size):∀(order:List Nat) (listed:Array Bool) (F:Fm) (L:Lm) (A:X),sT ops tab qs order listed=true->La ops listed->listed.size=ops.size->
 Bm P K (yY qs order) F L A->fS P ops qs K order.length listed F L A
 |[],listed,F,L,A,g,_,_,e=>⟨by simpa [sT] using g,e⟩
 |i::rest,listed,F,L,A,g,f,k,e=>by
  simp only [sT,AM,EH,B8] at g;obtain ⟨⟨m,a⟩,d⟩:=g;have o:=(N2.1 m).1;have b:qs[i]?=some qs[i]:=by simp
  have l:yY qs (i::rest)=qs[i]::yY qs rest:=by unfold yY;rw [List.filterMap_cons,b]
  rw [l] at e;have e:XQ P qs[i] (Bm P K (yY qs rest)) F L A:=e;have x:=fun F L A=>zP c (K:=K) n rest (listed.setIfInBounds i true) F L A d (f.set m) (by grind);rcases a with a|a
  . unfold nV at a;rw [b] at a;simp only [AM,Ao] at a;obtain ⟨v,w,s⟩:=(APB a.1 _).1 e;refine tY c b a.1 rest.length listed F L A v f k (fun j y p r u=>?_) m w (x _ _ _ s)
    have q:(y,j)∈qs.zipIdx:=by
     rw [ZC];exact p
    grind
  . simp only [beq_iff_eq,b,Ap,BH] at a;obtain ⟨a,t⟩:=a;refine ⟨fun h=>(by grind),fun j p=>?_⟩
    grind [A9,AJR]
def AJU (P:Program) (N:Nat) (esc:List Nat) (pf:List FuncId) (order:List Nat) (ops:Array Oper):Option (List Q):=do
 let qs <- QO P N esc ops (Aj ops.size)
 if sT ops (fX ops.toList #[]) (qs.map (toP pf)) order (FI ops.size false)&&order.length==ops.size then some (yY (qs.map (toP pf)) order) else none
def dA {ops:Array Oper} {esc:List Nat}:∀(l:List Nat) (qs:List Q),QO P N esc ops l=some qs->qs.length=l.length
 |[],qs,h=>by grind [QO,AP]
 |j::l,qs,h=>by
  simp only [QO,AX,AF] at h;obtain ⟨o,d,q,e,b,a,c⟩:=h;cases c;simp [dA l b a]
def AHO {esc:List Nat} {pf:List FuncId} {order:List Nat} {qs:List Q} (hm:P.follows .mixedOrders=true) (hc:AJU P N esc pf order ops=some qs) {K:CV} (hx:Bm P K qs F L A)
 (h:Bu base g lam Pr N F L A a w0 w) {id:Nat}:(Code.region id ops true).wp P (fun e a' w'=>e= .normal/\FH base Pr N w0 g w K a' w') a w:=by
 simp only [AJU,AX,AF] at hc;obtain ⟨qs0,hq0,hc⟩:=hc;split at hc
 case isFalse=>cases hc
 rename_i hp;simp only [AM,beq_iff_eq] at hp;cases hc;have hlen:=dA _ _ hq0
 have hcl:La ops (FI ops.size false):=by
  intro j o ho hj
  have:(FI ops.size false).getD j false=false:=by
   simp only [HK,Array.getElem?_replicate];grind
  rw [this] at hj;cases hj
 have hany:=zP (P:=P) (fun j i=>jZ) (K:=K) (qs:=qs0.map (toP pf)) (by grind) _ _ F L A hp.1 hcl (by simp) hx;rw [hp.2] at hany;refine wp_region_any hm ?_
 have hdrew:Bu base g lam Pr N F L A a w0 { w with drawn:=w.drawn+1}:=
  h.step (w':=w.drew) (Gh.le_refl g) (fun k b hb=>rfl) (h.rel.grow (w':=w.drew) (AW _) (fun _ _ _=>rfl) ((Below.refl base w).drew) (fun b hb=>⟨(h.rel.pr b hb).1,.inl hb⟩))
 exact bX hq0 K _ _ base g lam Pr F L A a w0 _ hany hdrew (fun a' w' hA=>⟨rfl,FH.trans (Gh.le_refl g) ⟨AW _,fun _ _=>rfl⟩ hA⟩)
end
section
variable {P:Program} {base N:Nat} {g g':Gh} {Pr:Nat->Prop} {A H:X} {w0 w w':World} {lam:Nat->Option Nat} {F:Fm} {L:Lm} {a:Act} {K:CV}
def AGW {o:Q06} (j:∀F L A,K F L A->K' F L A) (h:XO P dst K F L A o):XO P dst K' F L A o:=by
 by_cases D:isV o=true
 . grind [ALR]
 . cases o<;>simp only [isV,not_true_eq_false] at D
   case box x sh=>
    simp only [XO,ZD] at h ⊢
    grind
   case al z sh=>
    simp only [XO,ZD] at h ⊢
    grind
   case st x v n=>
    grind [XO,XSt]
   case msl e s b z l c=>
    obtain ⟨k,N,n,d,a,g,q,m,r⟩:=h;exact ⟨k,N,n,d,a,g,q,m,fun i G=>j _ _ _ (r i G)⟩
   case uO e s b x y=>
    obtain ⟨n,cs,σ1,srows,d,a,g,q,m,r,B⟩:=h;exact ⟨n,cs,σ1,srows,d,a,g,fun e=>j _ _ _ (q e),m,r,fun e t p=>j _ _ _ (B e t p)⟩
   case trn x y=>
    obtain ⟨k,s,e,cs,σ1,d,a⟩:=h;exact ⟨k,s,e,cs,σ1,d,fun t p=>j _ _ _ (a t p)⟩
   case lT e s l z Q=>
    obtain ⟨cs,d,a⟩:=h;exact ⟨cs,d,a.imp (fun a t p=>j _ _ _ (a t p)) fun ⟨ds,g,m⟩=>⟨ds,g,fun t p=>j _ _ _ (m t p)⟩⟩
   case app e s b x y=>
    rcases h with ⟨rows,σ1,srows,d,a,g,q,m,r⟩|⟨rows,srows,d,a,g,q,m,r,B⟩
    . exact .inl ⟨rows,σ1,srows,d,a,g,q,m,fun t p=>j _ _ _ (r t p)⟩
    . exact .inr ⟨rows,srows,d,a,g,q,m,r,j _ _ _ B⟩
   case call f args=>
    obtain ⟨d,R,a,g⟩:=h;exact ⟨d,R,a,fun v H u=>j _ _ _ (g v H u)⟩
   case Z9 x args=>
    obtain ⟨f,first,Ae,w,E,d,R,a,g⟩:=h;exact ⟨f,first,Ae,w,E,d,R,a,fun v H u=>j _ _ _ (g v H u)⟩
   case eK s x y z=>
    obtain ⟨w,t,d,a⟩:=h;refine ⟨w,t,d,?_⟩
    grind
   case ex k S=>
    simp only [XO,XEx,D,As,if_false] at h ⊢;exact ⟨h.1,h.2.mono fun v H _ u=>j _ _ _ u⟩
theorem VC {q:Q} (d:∀F L A,K F L A->K' F L A) (a:XQ P q K F L A):XQ P q K' F L A:=by
 unfold XQ at a ⊢;cases c:gd F q.grd with
 |none=>rw [c] at a;exact a.elim
 |some b=>
  rw [c] at a;cases b
  . exact d _ _ _ a
  . exact AGW d a
inductive PT where
 |done
 |one (i:Nat) (t:PT)
 |alt (i:Nat) (t r:PT)
 |lay (i:Nat) (t:PT)
inductive QT where
 |done
 |one (q:Q) (t:QT)
 |alt (q:Q) (t r:QT)
def XT (P:Program) (K:CV):Bool->QT->CV
 |false,.done=>K
 |true,.done=>fun _ _ _=>True
 |_,.one q t=>XQ P q (XT P K false t)
 |_,.alt q t r=>fun F L A=>XQ P q (XT P K false t) F L A/\XT P K true r F L A
def PT.depth:PT->Nat
 | .done=>0
 | .one _ t=>t.depth+1
 | .alt _ t r=>max (t.depth+1) r.depth
 | .lay _ t=>t.depth+1
def eR (qs:List Q):PT->Option QT
 | .done=>some .done
 | .one i t=>(qs[i]?).bind fun q=>(eR qs t).map (.one q ·)
 | .alt i t r=>(qs[i]?).bind fun q=>(eR qs t).bind fun t'=>(eR qs r).map (.alt q t' ·)
 | .lay i t=>(qs[i]?).bind fun q=>(eR qs t).map (.one q ·)
def Qg (ops:Array Oper) (tab:Array Nat) (qs:List Q):PT->Array Bool->Option (List Nat)->Bool
 | .done,listed,none=>(Region.ready .any ops listed).isEmpty
 | .done,listed,some l=>(Region.ready .any ops listed).all (l.contains ·)
 | .one i t,listed,none=>(Region.ready .any ops listed).contains i&&(Region.ready .any ops listed==[i]||nV tab qs listed i)&&Qg ops tab qs t (listed.setIfInBounds i true) none
 | .one i t,listed,some l=>(Region.ready .any ops listed).contains i&&(Region.ready .any ops listed).all (fun j=>j==i||l.contains j)&&Qg ops tab qs t (listed.setIfInBounds i true) none
 | .alt i t r,listed,e=>(Region.ready .any ops listed).contains i&&Qg ops tab qs t (listed.setIfInBounds i true) none&&Qg ops tab qs r listed (some (i::e.getD []))
 | .lay _ _,_,_=>false
def oA {ops:Array Oper} {tab:Array Nat} (e:∀j i,(tab.getD j 0).testBit i=true->Anc ops j i) {qs:List Q}:∀(t:PT) (z:QT),eR qs t=some z->
 (∀n listed F L A,t.depth<=n->Qg ops tab qs t listed none=true->La ops listed->listed.size=ops.size->XT P K false z F L A->fS P ops qs K n listed F L A)/\
 (∀n listed l F L A,t.depth<=n+1->Qg ops tab qs t listed (some l)=true->La ops listed->listed.size=ops.size->XT P K true z F L A->
   ∀j∈Region.ready .any ops listed,j ∉ l->∃q,qs[j]?=some q/\XQ P q (fS P ops qs K n (listed.setIfInBounds j true)) F L A)
 | .done,z,b=>by
  simp only [eR,AP] at b;subst b;refine ⟨fun n listed F L A _ b _ _ f=>?_,fun n listed l F L A _ b _ _ _ j k E=>?_⟩
  . simp only [Qg,List.isEmpty_iff] at b;cases n with
    |zero=>exact ⟨b,f⟩
    |succ n=>exact ⟨fun _=>f,fun i hi=>by grind⟩
  grind [Qg,Ao,B8,absurd]
 | .one i t,z,b=>by
  simp only [eR,AF,AO] at b;obtain ⟨q,B,t',w,rfl⟩:=b;obtain ⟨G,_⟩:=oA e t t' w;refine ⟨fun n listed F L A s b c g f=>?_,fun n listed l F L A s b c g f j k E=>?_⟩
  . simp only [PT.depth] at s;obtain ⟨m,rfl⟩:∃m,n=m+1:=⟨n - 1,by omega⟩;simp only [Qg,AM,EH,B8,beq_iff_eq] at b;obtain ⟨⟨p,d⟩,a⟩:=b;have f:XQ P q (XT P K false t') F L A:=f;have S:=fun F L A=>G m (listed.setIfInBounds i true) F L A (by omega) a (c.set p) (by grind);rcases d with d|d
    . refine ⟨fun h=>(by grind),fun j k=>?_⟩
      grind [A9,VC]
    . unfold nV at d;rw [B] at d;simp only [AM,Ao] at d;obtain ⟨v,Z,U⟩:=(APB d.1 _).1 f;refine tY e B d.1 m listed F L A v c g (fun j qj k o Y=>?_) p Z (S _ _ _ U)
      have T:(qj,j)∈qs.zipIdx:=by
       rw [ZC];exact k
      grind
  . simp only [PT.depth] at s;simp only [Qg,AM,Ao,B8,EH,beq_iff_eq] at b;obtain ⟨⟨p,D⟩,a⟩:=b;have f:XQ P q (XT P K false t') F L A:=f;rcases D j k with rfl|h
    . exact ⟨q,B,VC (fun F L A h=>G n _ F L A (by omega) a (c.set p) (by grind) h) f⟩
    grind
 | .alt i t r,z,b=>by
  simp only [eR,AF,AO] at b;obtain ⟨q,B,t',w,r',R,rfl⟩:=b;obtain ⟨G,_⟩:=oA e t t' w;obtain ⟨_,N⟩:=oA e r r' R;refine ⟨fun n listed F L A s b c g f=>?_,fun n listed l F L A s b c g f j k E=>?_⟩
  . simp only [PT.depth] at s;obtain ⟨m,rfl⟩:∃m,n=m+1:=⟨n - 1,by omega⟩;simp only [Qg,AM,B8,Option.getD_none] at b;obtain ⟨⟨p,a⟩,u⟩:=b;obtain ⟨x,y⟩:=f;refine ⟨fun h=>(by grind),fun j k=>?_⟩;by_cases o:j=i
    . subst o;exact ⟨q,B,VC (fun F L A h=>G m _ F L A (by omega) a (c.set p) (by grind) h) x⟩
    . exact N m listed [i] F L A (by omega) u c g y j k (by grind)
  . simp only [PT.depth] at s;simp only [Qg,AM,B8,BH] at b;obtain ⟨⟨p,a⟩,u⟩:=b;obtain ⟨x,y⟩:=f;by_cases o:j=i
    . subst o;exact ⟨q,B,VC (fun F L A h=>G n _ F L A (by omega) a (c.set p) (by grind) h) x⟩
    . exact N n listed (i::l) F L A (by omega) u c g y j k (by grind)
 | .lay i t,z,b=>⟨fun n listed F L A _ b=>by simp [Qg] at b,fun n listed l F L A _ b=>by simp [Qg] at b⟩
end
end Go.Ab
