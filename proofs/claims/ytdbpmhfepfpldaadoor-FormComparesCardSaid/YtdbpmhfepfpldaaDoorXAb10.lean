/- Rows of operations: what is to be shown of them at the abstract level, and that it suffices. Conditions: none. -/
import Derived.Test.YtdbpmhfepfpldaaDoorXAb9d
set_option linter.unusedSimpArgs false
set_option linter.unusedVariables false
set_option maxRecDepth 4000
set_option maxHeartbeats 8000000
open List renaming replicate→AH,nil_append→B8,take_of_length_le→Ag,getElem_of_mem→B5,getElem?_eq_getElem→AZ,length_take→Aq,length_drop→B2,all_cons→Ar,all_nil→Cq
open Bool renaming false_eq_true→A4,and_eq_true→AJ,and_true→DG
open Nat renaming le_refl→AP,le_trans→Aa,zero_add→Ah,mul_le_mul_right→Ae,add_mul→BG
open Go renaming undef→BW
open Option renaming bind_some→BU,bind_eq_some_iff→AA,map_eq_some_iff→AB,bind_eq_bind→AE
open Array renaming range→GW
open Option.some renaming injEq→AD,inj→FF
namespace Go.Ab
open Go.RowKit
variable {P:Program} {base N:Nat} {g g':Gh} {Pr:Nat→Prop} {σ σ':AF} {w0 w w':World} {lam:Nat→Option Nat} {F:Fm} {L:Lm} {a:Act}
abbrev BX:=Fm→Lm→AF→Prop
def KU (P:Program) (f:FuncId):Bool:=((P.funcs[f]?).bind (·.body)).isSome&&((P.funcs[f]?).map (·.name)) != some "runtime.NumGoroutine"
def AK (P:Program) (f:FuncId) (args:List AV) (dst:Option Nat) (K:BX) (F:Fm) (L:Lm) (σ:AF):Prop:=
 args.all AV.BC=true∧∃Q,AM P f args σ Q∧∀v σ',Q v σ'→K (AY dst v F) L σ'
def K0 (P:Program) (f:FuncId) (args:List AV) (dst:Option Nat) (K:BX) (F:Fm) (L:Lm) (σ:AF):Prop:=
 args.all AV.BC=true∧∃v,(v.BC=true∧AM P f args σ (fun v' σ'=>v'=v∧σ'=σ))∧K (AY dst v F) L σ
def F9 (e size bytes:Nat) (s x:AV) (dst:Option Nat) (K:BX) (F:Fm) (L:Lm) (σ:AF):Prop:=
 (∃rows σ1 srows,Jy σ e size s=some (rows,σ1)∧x.rows=some srows∧(∀r∈srows,r.length=size)∧rows.length+srows.length≤maxLen∧(rows.length+srows.length) * bytes≤140737488355328∧
   ∀t,σ.tok t=false→K (AY dst (.own t e size (rows++srows)) F) L (σ1.CX t))∨
 (∃rows srows,s= .clip rows∧x.rows=some srows∧(∀r∈rows,r.length=size)∧(∀r∈srows,r.length=size)∧rows.length+srows.length≤maxLen∧(rows.length+srows.length) * bytes≤140737488355328∧
   K (AY dst (.d (.sl (rows++srows))) F) L σ)
def HU (cs:List AV) (sh:Bool) (dst:Option Nat) (K:BX) (F:Fm) (L:Lm) (σ:AF):Prop:=
 AS cs=true∧match dst with
  |none=>False
  |some d=>if sh then ∀i,σ.blk i=none→K (put d (.gp i 0) F) L (σ.AX i cs) else K (put d (.lp d 0) (B4 d F)) (Ba d cs L) σ
def XSt (x v:AV) (n:Nat) (dst:Option Nat) (K:BX) (F:Fm) (L:Lm) (σ:AF):Prop:=
 dst=none∧AS v.cells=true∧v.cells.length=n∧match stA L σ v.cells x with
  |some (L',σ')=>K F L' σ'
  |none=>False
def El (e size bytes:Nat) (s x:AV) (dst:Option Nat) (K:BX) (F:Fm) (L:Lm) (σ:AF):Prop:=
 ∃n cs σ1 srows,Em σ e size s=some (n,cs,σ1)∧x.rows=some srows∧(∀r∈srows,r.length=size)∧(srows=[]→K (AY dst s F) L σ)∧n+srows.length≤maxLen∧(n+srows.length) * bytes≤140737488355328∧
  (srows≠[]→∀j,σ.blk j=none→K (AY dst (.ms j (n+srows.length) size e) F) L (σ1.AX j (cs++C0 srows)))
def Uq (x h:AV) (dst:Option Nat) (K:BX) (F:Fm) (L:Lm) (σ:AF):Prop:=
 ∃k s e cs σ1,UO σ x h=some (k,s,e,cs,σ1)∧∀j,σ.blk j=none→K (AY dst (.ms j k s e) F) L (σ1.AX j cs)
def IL (e size len:Nat) (cells:Option (List AV)) (dst:Option Nat) (K:BX) (F:Fm) (L:Lm) (σ:AF):Prop:=
 ∃cs,cells=some cs∧((∀j,σ.blk j=none→K (AY dst (.ms j len size e) F) L (σ.AX j cs))∨
  (∃ds,dvs cs=some ds∧0 < len∧∀t,σ.tok t=false→K (AY dst (.own t e size (chunk size len ds)) F) L (σ.CX t)))
def NW (e size bytes:Nat) (z:List AV) (l c:AV) (dst:Option Nat) (K:BX) (F:Fm) (L:Lm) (σ:AF):Prop:=
 ∃k k' n,l= .d (.int k n)∧c= .d (.int k' n)∧0≤n∧bytes * n≤281474976710656∧n≤9223372036854775807∧
  ∀i,σ.blk i=none→K (AY dst (.ms i n.toNat size e) F) L (σ.AX i (AH n.toNat z).flatten)
def XPv (v:Option AV) (dst:Option Nat) (K:BX) (F:Fm) (L:Lm) (σ:AF):Prop:=
 match v with
 |some v=>K (AY dst v F) L σ
 |none=>False
def XEx (k:EK) (args:List AV) (dst:Option Nat) (K:BX) (F:Fm) (L:Lm) (σ:AF):Prop:=
 if k.pure then XPv (exP k args) dst K F L σ else args.all AV.BC=true∧ExR σ (fun v σ'=>K (AY dst v F) L σ') k args
def XO (P:Program) (dst:Option Nat) (K:BX) (F:Fm) (L:Lm) (σ:AF):O→Prop
 | .box x sh=>HU (xv F x).cells sh dst K F L σ
 | .al z sh=>HU z sh dst K F L σ
 | .st x v n=>XSt (xv F x) (xv F v) n dst K F L σ
 | .msl e size bytes z l c=>NW e size bytes z (xv F l) (xv F c) dst K F L σ
 | .Jz e size bytes s x=>El e size bytes (xv F s) (xv F x) dst K F L σ
 | .trn x h=>Uq (xv F x) (xv F h) dst K F L σ
 | .K6 e size len z ps=>IL e size len (D7 z F ps) dst K F L σ
 | .app e size bytes s x=>F9 e size bytes (xv F s) (xv F x) dst K F L σ
 | .call f args=>AK P f (xvs F args) dst K F L σ
 | .G7 x args=>∃f first caps,xv F x= .fn f first caps∧KU P f=true∧AK P f (first++xvs F args++caps) dst K F L σ
 | .Jo f args=>K0 P f (xvs F args) dst K F L σ
 | .ex k xs=>XEx k (xvs F xs) dst K F L σ
 |o=>XPv (pv F L σ o) dst K F L σ
def Bz (base:Nat) (Pr:Nat→Prop) (N:Nat) (w0:World) (g:Gh) (w:World) (K:BX) (a':Act) (w':World):Prop:=
 ∃g' lam' F' L' σ',g.le g'∧KP Pr w w'∧Ak base g' lam' Pr N F' L' σ' a' w0 w'∧K F' L' σ'
theorem Bz.trans {K:BX} {a':Act} {g1:Gh} {w1:World} (hg:g.le g1) (hk:KP Pr w w1) (h:Bz base Pr N w0 g1 w1 K a' w'):Bz base Pr N w0 g w K a' w':=by
 obtain ⟨g',lam',F',L',σ',h1,h2,h3,h4⟩:=h
 exact ⟨g',lam',F',L',σ',Gh.le_trans hg h1,hk.trans h2,h3,h4⟩
theorem CK {o:Oper} {x:Value} {next:Act→World→Prop} {Q:Exit→Act→World→Prop} (hr:(execOp a.eval o).run P w= .ok (.value x) w') (h:next (a.put o.dst x) w'):o.wp P a w next Q:=by
 unfold Oper.wp;rw [hr];exact h
theorem An {sh im lc:Bool} {o:Oper} {c:O} (hc:MS P sh im lc o.op=some c) (hd:∀k,o.dst=some k→k < N) {K:BX} (hx:XPv (pv F L σ c) o.dst K F L σ)
 (h:Ak base g lam Pr N F L σ a w0 w) {Q:Exit→Act→World→Prop}:o.wp P a w (Bz base Pr N w0 g w K) Q:=by
 cases hv:pv F L σ c with
 |none=>rw [hv] at hx;exact hx.elim
 |some v=>
  rw [hv] at hx
  obtain ⟨x,g',w',hr,h1,h2,h3,h4⟩:=Sw hc hv base g lam Pr N a w0 w h
  exact CK hr ⟨g',lam,_,L,σ,h1,h2,h4.AY hd h3,hx⟩
theorem Lg {o:Oper} {cs:List AV} {vs:Array Value} {ty:TypeId} {sh:Bool} (hd:∀k,o.dst=some k→k < N) {K:BX} (hx:HU cs sh o.dst K F L σ)
 (h:Ak base g lam Pr N F L σ a w0 w) (hr:VRs g cs vs.toList) (hrun:(execOp a.eval o).run P w= .ok (.value (.pointer (some ⟨w.heap.size,0,none⟩))) (w.alloc (.cells vs ty)))
 {Q:Exit→Act→World→Prop}:o.wp P a w (Bz base Pr N w0 g w K) Q:=by
 obtain ⟨hok,hx⟩:=hx
 refine CK hrun ?_
 cases hdst:o.dst with
 |none=>rw [hdst] at hx;exact hx.elim
 |some d=>
  rw [hdst] at hx
  have hdn:=hd d hdst
  have hkp:KP Pr w (w.alloc (.cells vs ty)):=⟨by simp,fun b hb=>heap_alloc_old w _ b (h.rel.pr b (.inl hb)).1⟩
  cases sh with
  |false=>
   simp only [A4,if_false] at hx
   have h':Ak base g lam Pr N (B4 d F) L σ a w0 w:=by
    refine ⟨fun s=>?_,h.sz,h.df,h.loc,h.inj,h.npr,h.rel⟩
    simp only [B4]
    split
    · exact VR.undef
    · exact h.tm s
   exact ⟨g,_,_,_,σ,Gh.le_refl g,hkp,h'.Sb hdn (OX d F) ty hr hok,hx⟩
  |true=>
   simp only [if_true] at hx
   obtain ⟨i,hmu,_,hblk,_⟩:=h.rel.fresh
   have hrel:=h.rel.share (rt:=none) hmu (AP _) (h.rel.alloc (.cells vs ty)) (heap_alloc_new w _) (fun _ h=>by cases h) hr hok (fun hp=>by have:=(h.rel.pr _ hp).1;omega)
   have hle:=Gh.DW (g:=g) (i:=i) (b:=w.heap.size) (rt:=none) hmu
   have hf:=h.step hle (fun k b hb=>heap_alloc_old w _ b (h.D3 hb)) hrel
   exact ⟨_,lam,_,L,_,hle,hkp,hf.put hdn (v:= .gp i 0) (SV.Bt (.gp (by simp [Gh.share]))),hx i hblk⟩
theorem Re {o:Oper} {t:TypeId} {y z:Operand} {x xv':X} {n:Nat} (ho:o.op= .store t y z) (hy:xo y=some x) (hz:xo z=some xv') (hn:szT P t=some n) {K:BX}
 (hx:XSt (xv F x) (xv F xv') n o.dst K F L σ) (h:Ak base g lam Pr N F L σ a w0 w) {Q:Exit→Act→World→Prop}:o.wp P a w (Bz base Pr N w0 g w K) Q:=by
 obtain ⟨hdst,hok,hlen,hx⟩:=hx
 cases hst:stA L σ (xv F xv').cells (xv F x) with
 |none=>rw [hst] at hx;exact hx.elim
 |some r=>
  obtain ⟨L',σ'⟩:=r
  rw [hst] at hx
  have hv:=(AQ hz h).vr (En hok)
  have hc:=hv.cells hok
  obtain ⟨ad,w',hp,hrun,hk,hf⟩:=h.store (P:=P) (AQ hy h) hc hok hst
  have hsz:(a.eval z).cells.size=n:=by have:=hc.length;simpa [hlen] using this
  have:(execOp a.eval o).run P w= .ok .skip w':=by
   unfold execOp
   simp only [ho,hp,Instr.storeAt,Instr.sureAddr,storeVar,Sem.run_bind,Sem.run_pure,Result.andThen_ok,Bm hn]
   simp [hsz,hrun]
  unfold Oper.wp;rw [this]
  show Bz base Pr N w0 g w K (a.put o.dst BW) w'
  rw [hdst]
  exact ⟨g,lam,F,L',σ',Gh.le_refl g,hk,hf,hx⟩
theorem P9 {o:Oper} {t e:TypeId} {i:TypeInfo} {zv:Value} {y z:Operand} {x xs:X} (ho:o.op= .call { callee:= .builtin .append,args:=#[y,z],argTypes:=#[t,t]})
 (hy:xo y=some xs) (hz:xo z=some x) (ht:P.underlying t=some (.slice e)) (hi:P.info? e=some i) (hzv:i.zero=some zv) (hzs:zv.cells.size=i.size) (hd:∀k,o.dst=some k→k < N) {K:BX}
 (hx:F9 e i.size i.bytes (xv F xs) (xv F x) o.dst K F L σ) (h:Ak base g lam Pr N F L σ a w0 w) {Q:Exit→Act→World→Prop}:o.wp P a w (Bz base Pr N w0 g w K) Q:=by
 rcases hx with ⟨rows,σ1,srows,hpa,hqr,hss,h63,hby,hk⟩|⟨rows,srows,hs,hqr,hrs,hss,h63,hby,hk⟩
 case inr=>
  obtain ⟨v,g',w',hrun,hle,hkp,hvr,hf⟩:=Of (ty:=o.type) ht hi hzv hzs h (hs ▸ AQ hy h) (AQ hz h) hqr hrs hss h63 hby
  refine CK (x:=v) (w':=w') ?_ ⟨g',lam,_,L,_,hle,hkp,hf.AY hd (SV.Bt hvr),hk⟩
  unfold execOp
  simp [ho,resolve,invoke,builtin,hrun]
 obtain ⟨v,g',w',t',hrun,hle,hkp,htok,hvr,hf⟩:=QJ (ty:=o.type) ht hi hzv hzs h (AQ hy h) (AQ hz h) hpa hqr hss h63 hby
 refine CK (x:=v) (w':=w') ?_ ⟨g',lam,_,L,_,hle,hkp,hf.AY hd (SV.Bt hvr),hk t' htok⟩
 unfold execOp
 simp [ho,resolve,invoke,builtin,hrun]
theorem Jw {o:Oper} {f:FuncId} {args:List AV} {vs:List Value} (hrun:(execOp a.eval o).run P w= .ok (.enter f vs.toArray) w) (hd:∀k,o.dst=some k→k < N) {K:BX}
 (hv:VRs g args vs) (hx:AK P f args o.dst K F L σ) (h:Ak base g lam Pr N F L σ a w0 w) {Q:Exit→Act→World→Prop}:o.wp P a w (Bz base Pr N w0 g w K) Q:=by
 obtain ⟨_,R,hR,hk⟩:=hx
 unfold Oper.wp;rw [hrun]
 refine (hR base g _ w0 w vs h.rel hv).mono fun e w' ⟨v,av,g',σ',he,hvr,hrel,hle,hkp,hq⟩=>?_
 subst he
 have hf:=h.step hle (fun k b hb=>hkp.2 b (.inr ⟨k,hb⟩)) hrel
 exact ⟨g',lam,_,L,σ',hle,⟨hkp.1,fun b hb=>hkp.2 b (.inl hb)⟩,hf.AY hd (SV.Bt hvr),hk av σ' hq⟩
theorem Iu {f:FuncId} (hb:KU P f=true) (args:Array Value):(callFunc f args).run P w= .ok (.enter f args) w:=by
 unfold KU at hb
 simp only [AJ] at hb
 obtain ⟨h1,h2⟩:=hb
 cases hf:P.funcs[f]? with
 |none=>simp [hf] at h1
 |some fn=>
  simp only [hf,BU] at h1
  have h3:fn.name≠ "runtime.NumGoroutine":=by simpa [hf] using h2
  have h4:fn.body≠none:=by cases hbd:fn.body<;>simp [hbd] at h1 ⊢
  unfold callFunc
  simp [hf,h3,h4]
theorem Dl {n:Int} (h0:0≤n) (h1:n≤9223372036854775807):IntKind.i64.wrap n=n:=by
 unfold IntKind.wrap
 simp only [IntKind.signed,IntKind.bits]
 have e:n % (2 ^ 64:Int)=n:=Int.emod_eq_of_lt h0 (by omega)
 simp only [e]
 rw [if_neg (by simp;omega)]
theorem Pb {o:Oper} {t e:TypeId} {i:TypeInfo} {z:List AV} {y y2:Operand} {x x2:X} (ho:o.op= .makeSlice t y y2) (hy:xo y=some x) (hy2:xo y2=some x2)
 (he:Ep P t=some e) (hi:P.info? e=some i) (hz:E1 P e=some z) (hzn:z.length=i.size∧0 < i.size) (hd:∀k,o.dst=some k→k < N) {K:BX}
 (hx:NW e i.size i.bytes z (xv F x) (xv F x2) o.dst K F L σ) (h:Ak base g lam Pr N F L σ a w0 w) {Q:Exit→Act→World→Prop}:o.wp P a w (Bz base Pr N w0 g w K) Q:=by
 obtain ⟨k,k',n,h1,h2,h0,hb,hm,hk⟩:=hx
 have hs1:=AQ hy h
 have hs2:=AQ hy2 h
 rw [h1] at hs1
 rw [h2] at hs2
 have e1:a.eval y= .int k n:=by generalize a.eval y=vy at hs1;cases hs1 with|d hh=>cases hh;rfl
 have e2:a.eval y2= .int k' n:=by generalize a.eval y2=vy at hs2;cases hs2 with|d hh=>cases hh;rfl
 obtain ⟨i',zv,hi',hzv,hok,hvr⟩:=C8 hz
 rw [hi] at hi';cases hi'
 have hzs:zv.cells.size=i.size:=by have:=(hvr g).length;simp at this;omega
 have hu:=Ca he
 have hw:=Dl h0 hm
 have hno:¬(i.bytes * n>2 ^ 48):=by have:(2:Int) ^ 48=281474976710656:=by decide
                                    omega
 have harr:((if n.toNat * i.size=0 then pure #[] else do pure (← zeroValue e).cells:Sem (Array Value))).run P w= .ok (if n.toNat * i.size=0 then #[] else zv.cells) w:=by
  split<;>simp [zeroValue,typeInfo,hi,hzv]
 have hcells:∃arr:Array Value,(execOp a.eval o).run P w= .ok (.value (.slice (some ⟨w.heap.size,0,none⟩) n.toNat n.toNat)) (w.alloc (.cells arr e))∧arr.toList=(AH n.toNat zv.cells.toList).flatten:=by
  by_cases h00:n.toNat * i.size=0
  · refine ⟨#[],?_,?_⟩
    · have hr0:GW 0=#[]:=rfl
      unfold execOp
      simp only [ho,e1,e2,Instr.makeSlice,Sem.run_bind,A8 hu,Result.andThen_ok,asInt,asIntOf,Sem.run_pure,typeInfo,run_program,hi,hw]
      have c1:¬((decide (n < 0)||decide (i.bytes * n>2 ^ 48))||decide (n < 0)||decide (n>n))=true:=by simp;omega
      simp only [if_neg c1,Sem.run_bind,run_askRoom,Result.andThen_ok,sizeOf,typeInfo,run_program,hi,Sem.run_pure]
      simp only [h00,if_true,pure_bind,hr0,Array.map_empty,newRow,Sem.run_bind,run_newObj,Result.andThen_ok,Sem.run_pure,World.alloc_eq]
    · have:n.toNat=0:=by
       rcases Nat.mul_eq_zero.1 h00 with h|h
       · exact h
       · omega
      simp [this]
  · refine ⟨(GW (n.toNat * i.size)).map (zv.cells[· % zv.cells.size]!),?_,range_zero zv.cells i.size hzs hzn.2 n.toNat⟩
    unfold execOp
    simp only [ho,e1,e2,Instr.makeSlice,Sem.run_bind,A8 hu,Result.andThen_ok,asInt,asIntOf,Sem.run_pure,typeInfo,run_program,hi,hw]
    have c1:¬((decide (n < 0)||decide (i.bytes * n>2 ^ 48))||decide (n < 0)||decide (n>n))=true:=by simp;omega
    simp only [if_neg c1,Sem.run_bind,run_askRoom,Result.andThen_ok,sizeOf,typeInfo,run_program,hi,Sem.run_pure]
    simp only [if_neg h00,Sem.run_bind,zeroValue,typeInfo,run_program,Result.andThen_ok,hi,Sem.run_pure,hzv,newRow,run_newObj,World.alloc_eq]
 obtain ⟨arr,hrun,harrl⟩:=hcells
 have hr:VRs g (AH n.toNat z).flatten arr.toList:=by rw [harrl];exact (hvr g).flatten _
 have hkp:KP Pr w (w.alloc (.cells arr e)):=⟨by simp,fun b hb=>heap_alloc_old w _ b (h.rel.pr b (.inl hb)).1⟩
 obtain ⟨j,hmu,_,hblk,_⟩:=h.rel.fresh
 have hasz:arr.size=n.toNat * i.size:=by
  have h1:arr.toList.length=n.toNat * zv.cells.toList.length:=by rw [harrl,Ay]
  simpa [hzs] using h1
 have hrel:=h.rel.share (rt:=some (n.toNat * i.size,e)) hmu (AP _) (h.rel.alloc (.cells arr e)) (heap_alloc_new w _) (fun t ht=>by cases ht;exact ⟨hasz,rfl⟩) hr (Bj hok _) (fun hp=>by have:=(h.rel.pr _ hp).1;omega)
 have hle:=Gh.DW (g:=g) (i:=j) (b:=w.heap.size) (rt:=some (n.toNat * i.size,e)) hmu
 have hf:=h.step hle (fun k b hb=>heap_alloc_old w _ b (h.D3 hb)) hrel
 refine CK hrun ⟨_,lam,_,L,_,hle,hkp,hf.AY hd (v:= .ms j n.toNat i.size e) (SV.Bt (.ms (by simp [Gh.share]) (by simp [Gh.share]) (AP _) (by simp only [maxLen];omega))),hk j hblk⟩
theorem OT {o:Oper} {t e:TypeId} {i:TypeInfo} {zv:Value} {y z:Operand} {x xs:X} (ho:o.op= .call { callee:= .builtin .append,args:=#[y,z],argTypes:=#[t,t]})
 (hy:xo y=some xs) (hz:xo z=some x) (ht:P.underlying t=some (.slice e)) (hi:P.info? e=some i) (hzv:i.zero=some zv) (hzs:zv.cells.size=i.size) (hd:∀k,o.dst=some k→k < N) {K:BX}
 (hx:El e i.size i.bytes (xv F xs) (xv F x) o.dst K F L σ) (h:Ak base g lam Pr N F L σ a w0 w) {Q:Exit→Act→World→Prop}:o.wp P a w (Bz base Pr N w0 g w K) Q:=by
 obtain ⟨n,cs,σ1,srows,hpa,hqr,hss,hemp,h63,hby,hk⟩:=hx
 by_cases hne:srows=[]
 · subst hne
   have hsv:=AQ hy h
   have hform:∃ad cap,a.eval y= .slice ad n cap∧n≤cap:=by
    generalize a.eval y=vy at hsv
    unfold Em at hpa
    split at hpa
    · rename_i heq;rw [heq] at hsv;cases hpa;cases hsv;exact ⟨_,_,rfl,AP _⟩
    · rename_i heq
      rw [heq] at hsv
      split at hpa
      · simp only [AA] at hpa
        obtain ⟨cs0,_,hpa⟩:=hpa
        split at hpa
        · cases hpa
          cases hsv with
          |ms _ _ hn _=>exact ⟨_,_,rfl,hn⟩
        · cases hpa
      · cases hpa
    · cases hpa
   obtain ⟨ad,cap,hev,hnc⟩:=hform
   obtain ⟨ad2,cap2,hev2⟩:∃ad2 cap2,a.eval z= .slice ad2 0 cap2:=by
    have hq:=AQ hz h
    generalize a.eval z=vz at hq
    have hn:(xv F x).BC=true:=by
     generalize xv F x=xx at hqr
     cases xx<;>first|rfl|(cases hqr;done)
    obtain ⟨ad2,cap2,he⟩:=IF (hq.vr hn) hqr
    exact ⟨ad2,cap2,he⟩
   have hrun:(Builtin.append_ #[t,t] o.type #[.slice ad n cap,.slice ad2 0 cap2]).run P w= .ok (.slice ad n cap) w:=by
    have hfc:∀sz,(Builtin.firstCells sz 0 (.slice ad2 0 cap2)).run P w= .ok #[] w:=fun sz=>by
     cases ad2<;>simp [Builtin.firstCells,loadCells,loadCellsFrom]
    cases ad<;>simp [Builtin.append_,run_underlying ht,sizeOf,typeInfo,hi,Builtin.lenOf,hnc,hfc,storeCells]
   refine CK (x:= .slice ad n cap) (w':=w) ?_ ⟨g,lam,_,L,σ,Gh.le_refl g,KP.refl Pr w,h.AY hd (hev ▸ hsv),hemp rfl⟩
   unfold execOp
   simp [ho,resolve,invoke,builtin,hev,hev2,hrun]
 obtain ⟨v,g',w',j,hrun,hle,hkp,hblk,hvr,hf⟩:=OZ (ty:=o.type) ht hi hzv hzs h (AQ hy h) (AQ hz h) hpa hqr hss hne h63 hby
 refine CK (x:=v) (w':=w') ?_ ⟨g',lam,_,L,_,hle,hkp,hf.AY hd (SV.Bt hvr),hk hne j hblk⟩
 unfold execOp
 simp [ho,resolve,invoke,builtin,hrun]
theorem Pc {o:Oper} {t e0:TypeId} {sz:Nat} {y z:Operand} {x xh:X} (ho:o.op= .slice t y none (some z) none) (ht:P.underlying t=some (.slice e0)) (hsz:szT P e0=some sz) (hy:xo y=some x) (hz:xo z=some xh)
 (hd:∀k,o.dst=some k→k < N) {K:BX} (hx:Uq (xv F x) (xv F xh) o.dst K F L σ) (h:Ak base g lam Pr N F L σ a w0 w) {Q:Exit→Act→World→Prop}:o.wp P a w (Bz base Pr N w0 g w K) Q:=by
 obtain ⟨k,s,e,cs,σ1,hv,hk⟩:=hx
 obtain ⟨v,g',j,hrun,hle,hblk,hvr,hf⟩:=R7 (P:=P) ht hsz h (AQ hy h) (AQ hz h) hv
 refine CK (x:=v) (w':=w) ?_ ⟨g',lam,_,L,_,hle,KP.refl Pr w,hf.AY hd (SV.Bt hvr),hk j hblk⟩
 unfold execOp
 simp [ho,hrun]
theorem OU {o:Oper} {t e:TypeId} {n len:Nat} {z:List AV} {ps:Array (Nat×Operand)} {cps:List (Nat×Nat×X)} (ho:o.op= .buildSlice t len ps) (he:Ep P t=some e) (hz:E1 P e=some z) (hn:szT P e=some n)
 (hzn:z.length=n∧0 < n∧len * n≤4096∧len≤4096) (hp:GD (fun i=>some (i * n,n)) ps.toList=some cps) (hd:∀k,o.dst=some k→k < N) {K:BX}
 (hx:IL e n len (D7 (AH len z).flatten F cps) o.dst K F L σ) (h:Ak base g lam Pr N F L σ a w0 w) {Q:Exit→Act→World→Prop}:o.wp P a w (Bz base Pr N w0 g w K) Q:=by
 obtain ⟨cs,hf,hk⟩:=hx
 obtain ⟨hzl,h0,hsmall,hlen⟩:=hzn
 obtain ⟨i,zv,hi,hzv,hok,hvr⟩:=C8 hz
 have hu:=Ca he
 have hzs:zv.cells.size=n:=by have:=(hvr g).length;simp at this;omega
 have hinit:VRs g (AH len z).flatten ((GW (len * n)).map (zv.cells[· % zv.cells.size]!)).toList:=by
  rw [range_zero zv.cells n hzs h0 len];exact (hvr g).flatten len
 obtain ⟨cells,hfill,hr,hck⟩:=Fy h _ ps.toList cps _ _ cs hp hinit (Bj hok len) hf
 have hcl:cells.size=len * n:=by
  have h1:=hr.length
  have h2:=Fx F cps _ cs hf
  have h3:=Ay z len
  simp at h1;rw [h1,h2,h3,hzl]
 have hrun:(Instr.buildSlice t len (ps.map fun (i,x)=>(i,a.eval x))).run P w= .ok (.slice (some ⟨w.heap.size,0,none⟩) len len) (w.alloc (.cells cells e)):=by
  have hm:(ps.map fun (i,x)=>(i,a.eval x)).toList=ps.toList.map fun p=>(p.1,a.eval p.2):=by simp
  have hno:¬(len * n>2 ^ 24):=Nat.not_lt.2 (Aa hsmall (by decide))
  unfold Instr.buildSlice
  simp only [Sem.run_bind,A8 hu,Result.andThen_ok,Bm hn,hm]
  rw [if_neg hno]
  by_cases h00:len * n=0
  · have hr0:GW 0=#[]:=rfl
    rw [h00,hr0] at hfill
    simp only [h00,if_true,pure_bind,hr0,Array.map_empty] at hfill ⊢
    simp only [hfill,Sem.run_bind,newRow,run_newObj,Result.andThen_ok,Sem.run_pure,World.alloc_eq]
  · simp only [if_neg h00,Sem.run_bind,zeroValue,typeInfo,run_program,Result.andThen_ok,hi,Sem.run_pure,hzv,hfill,newRow,run_newObj,World.alloc_eq]
 have hkp:KP Pr w (w.alloc (.cells cells e)):=⟨by simp,fun b hb=>heap_alloc_old w _ b (h.rel.pr b (.inl hb)).1⟩
 have hexec:(execOp a.eval o).run P w= .ok (.value (.slice (some ⟨w.heap.size,0,none⟩) len len)) (w.alloc (.cells cells e)):=by
  unfold execOp
  simp [ho,hrun]
 obtain ⟨j,hmu,htau,hblk,htok⟩:=h.rel.fresh
 rcases hk with hk|⟨ds,hds,hpos,hk⟩
 rotate_left
 · have hown:(w.alloc (.cells cells e)).ownsRow base e n (.slice (some ⟨w.heap.size,0,none⟩) len len) (0+len) ([]++cells.toList):=
    ⟨by simp [hcl],.inr ⟨w.heap.size,len,cells,by simp,h.rel.bs,heap_alloc_new w _,by omega,by simp only [maxLen];omega,hcl,by
      rw [B8,Ah,Ag (by simp [hcl])]⟩⟩
   have hmine:=Lj.nil base g (fun b=>Pr b∨∃k,lam k=some b) σ w e n
   have hgb:w.grownBy (w.alloc (.cells cells e)) (Value.ownBlock (.slice (some ⟨w.heap.size,0,none⟩) len len)):=⟨rfl,rfl,rfl,by simp,fun k hk _=>heap_alloc_old w _ k hk⟩
   have hwh:∀k,Value.ownBlock (.slice (some ⟨w.heap.size,0,none⟩) len len)=some k→Value.ownBlock (.slice none 0 0)=some k∨w.heap.size≤k:=fun k hk=>by
    simp only [Value.ownBlock,AD] at hk;exact .inr (Nat.le_of_eq hk)
   have hrel:=h.rel.VD (m:=len) (news:=cells.toList) hmine hown hgb hwh htau
   have hle:=h.rel.KT (news:=cells.toList) hmine hwh htau
   have hf2:=h.step hle (fun k b hb=>heap_alloc_old w _ b (h.D3 hb)) hrel
   obtain ⟨hll,hrd⟩:=HF cs ds hds _ (hr.mono hle)
   have h1:=hr.length
   have hrdv:RD (g.grow (.slice (some ⟨w.heap.size,0,none⟩) len len) e n j ([]++cells.toList)).im (.sl (chunk n len ds)) (.slice (some ⟨w.heap.size,0,none⟩) len len):=
    RD.fresh (cells:=cells.toList) (by simp at h1;omega) (by simp only [maxLen];omega) (by simpa using hcl) (fun o v hv=>by
     simp only [Gh.grow,Value.ownBlock,if_true,B8];exact hv) hrd
   refine CK (x:= .slice (some ⟨w.heap.size,0,none⟩) len len) (w':=w.alloc (.cells cells e)) hexec ⟨_,lam,_,L,_,hle,hkp,hf2.AY hd (v:= .own j e n (chunk n len ds)) (SV.Bt (.own hrdv (by simp [Gh.grow]) (fun r hr'=>?_))),hk j htok⟩
   obtain ⟨k,hk1,rfl⟩:=B5 hr'
   have hkl:k < len:=by rw [CG] at hk1;exact hk1
   have:=HC n len ds k hkl
   rw [AZ hk1] at this
   rw [FF this,Aq,B2]
   have hdl:ds.length=len * n:=by simp at h1;omega
   have h2:(k+1) * n≤len * n:=Ae _ hkl
   rw [BG] at h2
   omega
 have hrel:=h.rel.share (rt:=some (len * n,e)) hmu (AP _) (h.rel.alloc (.cells cells e)) (heap_alloc_new w _) (fun t ht=>by cases ht;exact ⟨hcl,rfl⟩) hr hck (fun hp=>by have:=(h.rel.pr _ hp).1;omega)
 have hle:=Gh.DW (g:=g) (i:=j) (b:=w.heap.size) (rt:=some (len * n,e)) hmu
 have hf2:=h.step hle (fun k b hb=>heap_alloc_old w _ b (h.D3 hb)) hrel
 refine CK (x:= .slice (some ⟨w.heap.size,0,none⟩) len len) (w':=w.alloc (.cells cells e)) ?_ ⟨_,lam,_,L,_,hle,hkp,hf2.AY hd (v:= .ms j len n e) (SV.Bt (.ms (by simp [Gh.share]) (by simp [Gh.share]) (AP _) (by simp only [maxLen];omega))),hk j hblk⟩
 exact hexec
theorem OV {sh im lc:Bool} {o:Oper} {c:O} (hc:MS P sh im lc o.op=some c) (hd:∀k,o.dst=some k→k < N) {K:BX} (hx:XO P o.dst K F L σ c)
 (h:Ak base g lam Pr N F L σ a w0 w) {Q:Exit→Act→World→Prop}:o.wp P a w (Bz base Pr N w0 g w K) Q:=by
 have hc0:=hc
 cases hop:o.op<;>rw [hop] at hc<;>simp only [MS] at hc
 case alloc t=>
  simp only [AB] at hc
  obtain ⟨z,hz,rfl⟩:=hc
  obtain ⟨i,zv,hi,hzv,hok,hvr⟩:=C8 hz
  exact Lg (ty:=t) hd hx h (hvr g) (by unfold execOp;simp [hop,Instr.alloc,zeroValue,typeInfo,hi,hzv,newVar,newRow])
 case box t y=>
  simp only [AB] at hc
  obtain ⟨x,hxo,rfl⟩:=hc
  cases im
  case true=>exact An hc0 hd hx h
  have hx:HU (xv F x).cells sh o.dst K F L σ:=hx
  have hok:AS (xv F x).cells=true:=hx.1
  have hv:=((AQ hxo h).vr (En hok)).cells hok
  exact Lg (ty:=t) hd hx h hv (by unfold execOp;simp [hop,Instr.box,newVar,newRow])
 case store t y z=>
  simp only [AE,AA] at hc
  obtain ⟨x,hxo,x2,hxo2,n,hn,he⟩:=hc
  cases he
  exact Re hop hxo hxo2 hn hx h
 case makeSlice t l cc=>
  simp only [AE,AA] at hc
  obtain ⟨e,he,i,hi,z,hz,hh⟩:=hc
  split at hh
  · rename_i hcond
    simp only [AA] at hh
    obtain ⟨xl,hxl,xc,hxc,hh⟩:=hh
    cases hh
    exact Pb hop hxl hxc he hi hz hcond hd hx h
  · cases hh
 case call cl=>
  obtain ⟨callee,⟨args⟩,⟨argTypes⟩⟩:=cl
  unfold I4 at hc
  cases callee with
  |invoke r m=>cases hc
  |value fo=>
   cases fo<;>simp only at hc
   · rename_i n
     simp only [AB] at hc
     obtain ⟨xs,hxs,rfl⟩:=hc
     obtain ⟨f,first,caps,hfn,hbody,hx⟩:=hx
     have hall:=hx.1
     simp only [List.all_append,AJ] at hall
     have hs:SV g lam (.fn f first caps) (a.tmps.getD n BW):=by have:=h.tm n;simp only [xv] at hfn;rwa [hfn] at this
     have hargs:=Ej h args xs hxs hall.1.2
     generalize hvn:a.tmps.getD n BW=vn at hs
     cases hs with
     |@fn _ _ _ fs cs hl hl' h1 h2=>
      refine Jw (vs:=fs++args.map a.eval++cs) ?_ hd (((VRs.Ev _ _ hl h1).append hargs).append (VRs.Ev _ _ hl' h2)) hx h
      unfold execOp
      simp only [hop,resolve,Act.eval,hvn,Deferred.ofValue,Sem.run_bind,Sem.run_pure,Result.andThen_ok,invoke]
      rw [Iu hbody]
      simp
   · cases hc
   · cases hc
   · rename_i f
     split at hc
     · rename_i hb
       simp only [AB] at hc
       obtain ⟨xs,hxs,rfl⟩:=hc
       have hall:(xvs F xs).all AV.BC=true:=hx.1
       refine Jw (vs:=args.map a.eval) ?_ hd (Ej h args xs hxs hall) hx h
       unfold execOp
       simp only [hop,resolve,Act.eval,Deferred.ofValue,Sem.run_bind,Sem.run_pure,Result.andThen_ok,invoke]
       rw [Iu hb]
       simp
     · cases hc
  |builtin b=>
   simp only at hc
   unfold SB at hc
   split at hc
   · rename_i x t
     have:∃x',c= .len x'∨c= .P1 x':=by
      cases hu:P.underlying t with
      |none=>rw [hu] at hc;cases hc
      |some d=>
       rw [hu] at hc
       cases d<;>try (cases hc;done)
       · simp only [AB] at hc;obtain ⟨xx,_,rfl⟩:=hc;exact ⟨xx,.inr rfl⟩
       · simp only [AB] at hc;obtain ⟨xx,_,rfl⟩:=hc;exact ⟨xx,.inl rfl⟩
     obtain ⟨x',rfl|rfl⟩:=this
     · exact An hc0 hd hx h
     · exact An hc0 hd hx h
   · simp only [AE,AA] at hc
     obtain ⟨x,_,x2,_,hh⟩:=hc
     cases hh
     exact An hc0 hd hx h
   · simp only [AE,AA] at hc
     obtain ⟨x,_,x2,_,x3,_,hh⟩:=hc
     cases hh
     exact An hc0 hd hx h
   · simp only [AE,AA] at hc
     obtain ⟨x,_,x2,_,hh⟩:=hc
     cases hh
     exact An hc0 hd hx h
   · simp only [AE,AA] at hc
     obtain ⟨e,he,i,hi,z,hz,hh⟩:=hc
     split at hh
     · rename_i hcond
       obtain ⟨rfl,hzs,hpos⟩:=hcond
       simp only [AA] at hh
       obtain ⟨xs,hxs,x,hx',hh⟩:=hh
       cases sh
       · cases hh
         exact P9 hop hxs hx' (Ca he) hi hz hzs hd hx h
       · cases hh
         exact OT hop hxs hx' (Ca he) hi hz hzs hd hx h
     · cases hh
   · cases hc
 case move y=>
  simp only [AB] at hc
  obtain ⟨x,_,rfl⟩:=hc
  exact An hc0 hd hx h
 case assign y=>
  simp only [AB] at hc
  obtain ⟨x,_,rfl⟩:=hc
  exact An hc0 hd hx h
 case extract y i=>
  simp only [AB] at hc
  obtain ⟨x,_,rfl⟩:=hc
  exact An hc0 hd hx h
 case nilCheck y=>
  simp only [AB] at hc
  obtain ⟨x,_,rfl⟩:=hc
  exact An hc0 hd hx h
 case pick y1 y2 y3=>
  simp only [AE,AA] at hc
  obtain ⟨_,_,_,_,_,_,he⟩:=hc
  cases he
  exact An hc0 hd hx h
 case fieldAddr s y f=>
  simp only [AE,AA] at hc
  obtain ⟨_,_,_,_,he⟩:=hc
  cases he
  exact An hc0 hd hx h
 case load t y=>
  simp only [AE,AA] at hc
  obtain ⟨_,_,_,_,he⟩:=hc
  cases lc
  · cases he
    exact An hc0 hd hx h
  · cases he
    exact An hc0 hd hx h
 case indexAddr t y i=>
  simp only [AE,AA] at hc
  obtain ⟨_,_,_,_,_,_,_,_,he⟩:=hc
  cases he
  exact An hc0 hd hx h
 case index t y i=>
  split at hc
  · simp only [AE,AA] at hc
    obtain ⟨_,_,_,_,he⟩:=hc
    cases he
    exact An hc0 hd hx h
  · cases hc
 case field s y f=>
  simp only [AE,AA] at hc
  obtain ⟨_,_,_,_,_,_,he⟩:=hc
  cases he
  exact An hc0 hd hx h
 case slice t y lo hi mx=>
  cases hu:P.underlying t with
  |none=>rw [hu] at hc;cases hc
  |some d=>
   rw [hu] at hc
   cases d<;>try (cases hc;done)
   · cases mx with
     |some _=>cases hc
     |none=>
      simp only [AE,AA] at hc
      obtain ⟨x,hx',xl,hxl,xh,hxh,hh⟩:=hc
      cases hh
      exact An hc0 hd hx h
   · rename_i e
     cases sh
     · simp only [A4,if_false,AE,AA] at hc
       obtain ⟨x,hx',xl,hxl,xh,hxh,xm,hxm,sz,hsz,hh⟩:=hc
       cases hh
       exact An hc0 hd hx h
     · simp only [if_true] at hc
       obtain ⟨rfl,z,rfl,rfl,x,xh,sz,hx',hxh,hsz,rfl⟩:=Ma hc
       exact Pc hop hu hsz hx' hxh hd hx h
 case binOp op t y z t2=>
  cases hu:P.underlying t with
  |none=>rw [hu] at hc;cases hc
  |some dd=>
  rw [hu] at hc
  cases dd<;>try (cases hc;done)
  case pointer e=>
   obtain ⟨_,ne,x,_,_,rfl⟩:=LP hc
   exact An hc0 hd hx h
  case struct fs=>
   have hc:(if Ff P t then ON op fs.size y z else none)=some c:=hc
   split at hc
   · obtain ⟨ne,x,xi,_,_,_,rfl⟩:=L9 hc
     exact An hc0 hd hx h
   · cases hc
  all_goals first
   |(cases hc;done)
   |(simp only [AE,AA] at hc
     obtain ⟨_,_,_,_,he⟩:=hc
     cases he
     exact An hc0 hd hx h)
 case unOp op t y=>
  simp only [AE,AA] at hc
  obtain ⟨_,_,he⟩:=hc
  cases he
  exact An hc0 hd hx h
 case convert s t y=>
  split at hc
  · simp only [AE,AA] at hc
    obtain ⟨_,_,he⟩:=hc
    cases he
    exact An hc0 hd hx h
  · cases hc
 case build t ps=>
  simp only [AE,AA] at hc
  obtain ⟨_,_,_,_,_,_,he⟩:=hc
  cases he
  exact An hc0 hd hx h
 case buildSlice t len ps=>
  simp only [AE,AA] at hc
  obtain ⟨_,_,_,_,_,_,hh⟩:=hc
  split at hh
  · rename_i hcond
    simp only [AA] at hh
    obtain ⟨cps,hcps,hh⟩:=hh
    cases sh
    · cases hh
      exact An hc0 hd hx h
    · cases hh
      exact OU hop ‹_› ‹_› ‹_› hcond hcps hd hx h
  · cases hh
 case makeFunc fn first caps=>
  cases fn<;>simp only [AE,AA] at hc<;>try (cases hc;done)
  obtain ⟨_,_,_,_,hh⟩:=hc
  cases hh
  exact An hc0 hd hx h
 all_goals (cases hc;done)
theorem Jv {o:Oper} {m:Sem Value} (ho:∀x w',m.run P w= .ok x w'→(execOp a.eval o).run P w= .ok (.value x) w') {K:BX} (hd:∀k,o.dst=some k→k < N)
 (h:E2 P m base g lam Pr N F L a w0 w (fun v σ'=>K (AY o.dst v F) L σ')) {Q:Exit→Act→World→Prop}:o.wp P a w (Bz base Pr N w0 g w K) Q:=by
 obtain ⟨x,g',w',v,σ',hrun,hle,hkp,hvr,hf,hR⟩:=h
 exact CK (ho x w' hrun) ⟨g',lam,_,L,σ',hle,hkp,hf.AY hd (SV.Bt hvr),hR⟩
theorem Le {o:Oper} {m:Sem Value} (ho:∀x w',m.run P w= .ok x w'→(execOp a.eval o).run P w= .ok (.value x) w') {K:BX} (hd:∀k,o.dst=some k→k < N) (hf:Ak base g lam Pr N F L σ a w0 w) {v:AV}
 (h:∃x,m.run P w= .ok x w∧VR g v x) (hk:K (AY o.dst v F) L σ) {Q:Exit→Act→World→Prop}:o.wp P a w (Bz base Pr N w0 g w K) Q:=by
 obtain ⟨x,hrun,hvr⟩:=h
 exact CK (ho x w hrun) ⟨g,lam,_,L,σ,Gh.le_refl g,KP.refl Pr w,hf.AY hd (SV.Bt hvr),hk⟩
theorem HP {v:Option AV} {dst:Option Nat} {K:BX} (h:XPv v dst K F L σ):∃x,v=some x∧K (AY dst x F) L σ:=by
 cases v with
 |none=>exact h.elim
 |some x=>exact ⟨x,rfl,h⟩
theorem HG {k:EK} {args:List AV} {v:AV} (h:exP k args=some v):args.all AV.BC=true∧EZ k args=some v:=by
 unfold exP at h
 split at h
 · exact ⟨by assumption,h⟩
 · cases h
theorem Qr {e:TypeId} (h:SQ P e=true):P.underlying e=some (.int .u8):=by
 unfold SQ at h
 split at h
 · assumption
 · cases h
theorem IE {m:Sem Value} {x:Value} (hr:m.run P w= .ok x w'):((do let v ← m;pure (.value v):Sem Next)).run P w= .ok (.value x) w':=by
 simp only [Sem.run_bind,hr,Result.andThen_ok,Sem.run_pure]
theorem Rb {sh im:Bool} {o:Oper} {c:O} (hc:SC P sh im o.op=some c) (hd:∀k,o.dst=some k→k < N) {K:BX} (hx:XO P o.dst K F L σ c)
 (h:Ak base g lam Pr N F L σ a w0 w) {Q:Exit→Act→World→Prop}:o.wp P a w (Bz base Pr N w0 g w K) Q:=by
 unfold SC at hc
 split at hc
 · rename_i t hop
   split at hc
   · simp only [AB] at hc
     obtain ⟨z,hz,rfl⟩:=hc
     have hx:([]:List AV).all AV.BC=true∧ExR σ (fun v σ'=>K (AY o.dst v F) L σ') (.alt t z) []:=hx
     obtain ⟨x,w',hrun,g',v,σ',h1,h2,h3,h4,h5⟩:=QI (P:=P) hz h hx.2
     exact CK (hrun o hop) ⟨g',lam,_,L,σ',h1,h2,h4.AY hd (SV.Bt h3),h5⟩
   · cases hc
 · rename_i t y hop
   split at hc
   · simp only [AA,AB] at hc
     obtain ⟨n,hn,x,hxo,rfl⟩:=hc
     have hx:([xv F x]:List AV).all AV.BC=true∧ExR σ (fun v σ'=>K (AY o.dst v F) L σ') (.QR t n) [xv F x]:=hx
     obtain ⟨z,w',hrun,g',v,σ',h1,h2,h3,h4,h5⟩:=O8 (P:=P) hxo h hx.2
     exact CK (hrun o hop) ⟨g',lam,_,L,σ',h1,h2,h4.AY hd (SV.Bt h3),h5⟩
   · cases hc
 · rename_i op t x y t2 hop
   split at hc
   · rename_i e hu
     split at hc
     · simp only [AB] at hc
       obtain ⟨xx,hxx,rfl⟩:=hc
       have hx:[xv F xx].all AV.BC=true∧ExR σ (fun v σ'=>K (AY o.dst v F) L σ') (.L7 false) [xv F xx]:=hx
       have hv:=(AQ hxx h).vr (by simpa using hx.1)
       exact Jv (fun z w' hr=>by unfold execOp;simp only [hop];exact IE hr) hd (L8 (ne:=false) hu h hv hx.2 x (.const (.slice none 0 0)))
     · simp only [AB] at hc
       obtain ⟨xx,hxx,rfl⟩:=hc
       have hx:[xv F xx].all AV.BC=true∧ExR σ (fun v σ'=>K (AY o.dst v F) L σ') (.L7 true) [xv F xx]:=hx
       have hv:=(AQ hxx h).vr (by simpa using hx.1)
       exact Jv (fun z w' hr=>by unfold execOp;simp only [hop];exact IE hr) hd (L8 (ne:=true) hu h hv hx.2 x (.const (.slice none 0 0)))
     · cases hc
   · rename_i k0 k1 n hu
     split at hc
     · split at hc
       · rename_i hn0
         simp only [AB] at hc
         obtain ⟨xx,hxx,rfl⟩:=hc
         obtain ⟨v,hv,hk⟩:=HP (show XPv (exP (.shr n.toNat) [xv F xx]) o.dst K F L σ from hx)
         obtain ⟨hn,hv⟩:=HG hv
         exact Le (fun z w' hr=>by unfold execOp;simp only [hop];exact IE hr) hd h (RZ hn0 ((AQ hxx h).vr (by simpa using hn)) hv x (.const (.int k1 n))) hk
       · cases hc
     · cases hc
   · cases hc
 · rename_i s t x hop
   split at hc
   · rename_i e hus hut
     split at hc
     · rename_i hu8
       simp only [AB] at hc
       obtain ⟨xx,hxx,rfl⟩:=hc
       obtain ⟨v,hv,hk⟩:=HP (show XPv (exP .b2s [xv F xx]) o.dst K F L σ from hx)
       obtain ⟨hn,hv⟩:=HG hv
       exact Le (fun z w' hr=>by unfold execOp;simp [hop,hr]) hd h (QN hus (Qr hu8) hut h.rel ((AQ hxx h).vr (by simpa using hn)) hv) hk
     · cases hc
   · cases hc
 · rename_i cl hop
   obtain ⟨callee,⟨args⟩,⟨argTypes⟩⟩:=cl
   simp only at hc
   split at hc
   · rename_i b
     unfold SD at hc
     split at hc
     · rename_i x t
       split at hc
       · rename_i e hu
         simp only [AB] at hc
         obtain ⟨xx,hxx,rfl⟩:=hc
         obtain ⟨v,hv,hk⟩:=HP (show XPv (exP .cap [xv F xx]) o.dst K F L σ from hx)
         obtain ⟨hn,hv⟩:=HG hv
         exact Le (fun z w' hr=>by unfold execOp;simp [hop,resolve,invoke,builtin,hr]) hd h (QW (ty:=o.type) hu ((AQ hxx h).vr (by simpa using hn)) hv) hk
       · cases hc
     · rename_i x t
       simp only [AA] at hc
       obtain ⟨e,he,i,hi,z,hz,hc⟩:=hc
       split at hc
       · rename_i hcond
         simp only [AB] at hc
         obtain ⟨xx,hxx,rfl⟩:=hc
         have hx:[xv F xx].all AV.BC=true∧ExR σ (fun v σ'=>K (AY o.dst v F) L σ') (.clr z) [xv F xx]:=hx
         exact Jv (fun z w' hr=>by unfold execOp;simp [hop,resolve,invoke,builtin,hr]) hd (Q1 (ty:=o.type) (Ca he) hi hz hcond.1 h ((AQ hxx h).vr (by simpa using hx.1)) hx.2)
       · cases hc
     · rename_i x y t u
       simp only [AA] at hc
       obtain ⟨e,he,i,hi,hc⟩:=hc
       split at hc
       · rename_i hcond
         obtain ⟨rfl,hpos⟩:=hcond
         simp only [AA,AB] at hc
         obtain ⟨xs,hxs,xx,hxx,rfl⟩:=hc
         have hx:[xv F xs,xv F xx].all AV.BC=true∧ExR σ (fun v σ'=>K (AY o.dst v F) L σ') (.cpy i.size) [xv F xs,xv F xx]:=hx
         have hn:=hx.1
         simp only [Ar,Cq,DG,AJ] at hn
         exact Jv (fun z w' hr=>by unfold execOp;simp [hop,resolve,invoke,builtin,hr]) hd (Q4 (ty:=o.type) (Ca he) hi h ((AQ hxs h).vr hn.1) ((AQ hxx h).vr hn.2) hx.2)
       · cases hc
     · rename_i s x t u
       simp only [AA] at hc
       obtain ⟨e,he,i,hi,hc⟩:=hc
       split at hc
       · split at hc
         · rename_i hcond
           obtain ⟨rfl,hpos,hby,hzz⟩:=hcond
           obtain ⟨z0,hz0,hzs0⟩:=AB.1 hzz
           simp only [AA,AB] at hc
           obtain ⟨xs,hxs,xx,hxx,rfl⟩:=hc
           have hx:[xv F xs,xv F xx].all AV.BC=true∧ExR σ (fun v σ'=>K (AY o.dst v F) L σ') (.O1 e i.size) [xv F xs,xv F xx]:=hx
           have hn:=hx.1
           simp only [Ar,Cq,DG,AJ] at hn
           exact Jv (fun z w' hr=>by unfold execOp;simp [hop,resolve,invoke,builtin,hr]) hd (O2 (ty:=o.type) (Ca he) hi h ((AQ hxs h).vr hn.1) ((AQ hxx h).vr hn.2) hx.2 hpos hz0 hzs0 hby)
         · cases hc
       simp only [AA] at hc
       obtain ⟨z,hz,hc⟩:=hc
       split at hc
       · rename_i hu
         split at hc
         · split at hc
           · rename_i hcond
             obtain ⟨h1,h2,h3⟩:=hcond
             simp only [AA,AB] at hc
             obtain ⟨xs,hxs,xx,hxx,rfl⟩:=hc
             have hx:[xv F xs,xv F xx].all AV.BC=true∧ExR σ (fun v σ'=>K (AY o.dst v F) L σ') (.apps e) [xv F xs,xv F xx]:=hx
             have hn:=hx.1
             simp only [Ar,Cq,DG,AJ] at hn
             exact Jv (fun z w' hr=>by unfold execOp;simp [hop,resolve,invoke,builtin,hr]) hd (O0 (ty:=o.type) (Ca he) hu hi hz h1 h2 h ((AQ hxs h).vr hn.1) ((AQ hxx h).vr hn.2) hx.2)
           · cases hc
         · cases hc
       · rename_i kn hu
         simp only [AA] at hc
         obtain ⟨zc,hzc,hc⟩:=hc
         split at hc
         · rename_i hcond
           obtain ⟨h1,h2,h3⟩:=hcond
           simp only [AA,AB] at hc
           obtain ⟨xs,hxs,xx,hxx,rfl⟩:=hc
           have hx:[xv F xs,xv F xx].all AV.BC=true∧ExR σ (fun v σ'=>K (AY o.dst v F) L σ') (.N0 e i.size i.bytes zc) [xv F xs,xv F xx]:=hx
           have hn:=hx.1
           simp only [Ar,Cq,DG,AJ] at hn
           exact Jv (fun z w' hr=>by unfold execOp;simp [hop,resolve,invoke,builtin,hr]) hd (O4 (ty:=o.type) (Ca he) hu hi hz h2 h3 hzc h1 h ((AQ hxs h).vr hn.1) ((AQ hxx h).vr hn.2) hx.2)
         · cases hc
       · cases hc
     · rename_i x t
       split at hc
       · rename_i e hu
         simp only [AB] at hc
         obtain ⟨xx,hxx,rfl⟩:=hc
         obtain ⟨v,hv,hk⟩:=HP (show XPv (exP .usd [xv F xx]) o.dst K F L σ from hx)
         obtain ⟨hn,hv⟩:=HG hv
         exact Le (fun z w' hr=>by unfold execOp;simp [hop,resolve,invoke,builtin,hr]) hd h (R8 (ts:=#[t]) (ty:=o.type) ((AQ hxx h).vr (by simpa using hn)) hv) hk
       · cases hc
     · rename_i x y pt it
       split at hc
       · rename_i e hu
         split at hc
         · rename_i hcond
           simp only [AA,AB] at hc
           obtain ⟨xs,hxs,xx,hxx,rfl⟩:=hc
           have hx:[xv F xs,xv F xx].all AV.BC=true∧ExR σ (fun v σ'=>K (AY o.dst v F) L σ') (.OR e) [xv F xs,xv F xx]:=hx
           have hn:=hx.1
           simp only [Ar,Cq,DG,AJ] at hn
           exact Jv (fun z w' hr=>by unfold execOp;simp [hop,resolve,invoke,builtin,hr]) hd (P7 (it:=it) (ty:=o.type) hu hcond.2 h ((AQ hxs h).vr hn.1) ((AQ hxx h).vr hn.2) hx.2)
         · cases hc
       · cases hc
     · cases hc
   · rename_i f
     split at hc
     · rename_i hf
       simp only [AB] at hc
       obtain ⟨xs,hxs,rfl⟩:=hc
       obtain ⟨v,hv,hk⟩:=HP (show XPv (exP .IM (xvs F xs)) o.dst K F L σ from hx)
       obtain ⟨hn,hv⟩:=HG hv
       have hargs:=Ej h args xs hxs hn
       obtain ⟨u,h1,h2,h3⟩:=NX (P:=P) (w:=w) hf hargs hv
       exact Le (m:=add64Entry (args.map a.eval).toArray) (fun z w' hr=>by
        rw [h1] at hr;cases hr
        unfold execOp
        simp only [hop,resolve,Act.eval,Deferred.ofValue,Sem.run_bind,Sem.run_pure,Result.andThen_ok,invoke]
        simpa using h2) hd h ⟨u,h1,h3⟩ hk
     · cases hc
   · cases hc
 · cases hc
def Oj (P:Program) (sh im lc:Bool) (op:Op):Option O:=
 match SC P sh im op with
 |some c=>some c
 |none=>MS P sh im lc op
theorem Lh {sh im lc:Bool} {o:Oper} {c:O} (hc:Oj P sh im lc o.op=some c) (hd:∀k,o.dst=some k→k < N) {K:BX} (hx:XO P o.dst K F L σ c)
 (h:Ak base g lam Pr N F L σ a w0 w) {Q:Exit→Act→World→Prop}:o.wp P a w (Bz base Pr N w0 g w K) Q:=by
 unfold Oj at hc
 split at hc
 · rename_i he;cases hc;exact Rb he hd hx h
 · exact OV hc hd hx h
def Pm (P:Program) (N:Nat) (esc:List Nat) (ops:Array Oper) (o:Oper):Option Q:=do
 let c ← Oj P (o.dst.any esc.contains) (o.dst.any fun d=>esc.contains (d+100000)) (o.dst.any fun d=>esc.contains (d+300000)) o.op
 if o.dst.all (· < N) then
  match o.guard with
  |none=>some ⟨o.dst,c,none⟩
  |some (j,want)=>do
   let s ← (ops[j]?).bind (·.dst)
   if s < N then some ⟨o.dst,c,some (s,want)⟩ else none
                                      else none
def Eo (P:Program) (N:Nat) (esc:List Nat) (ops:Array Oper):List Nat→Option (List Q)
 |[]=>some []
 |i::l=>do
  let o ← ops[i]?
  let q ← Pm P N esc ops o
  some (q::(← Eo P N esc ops l))
def gdV (want:Bool):AV→Option Bool
 | .d (.bool b)=>some (b==want)
 | .tup []=>some false
 |_=>none
def gd (F:Fm):Option (Nat×Bool)→Option Bool
 |none=>some true
 |some (s,want)=>gdV want (F s)
def XG (c:Option Bool) (yes no:Prop):Prop:=
 match c with
 |some true=>yes
 |some false=>no
 |none=>False
def XQ (P:Program) (q:Q) (K:BX) (F:Fm) (L:Lm) (σ:AF):Prop:=
 XG (gd F q.grd) (XO P q.dst K F L σ q.o) (K (AY q.dst (.tup []) F) L σ)
def Ai (P:Program) (K:BX):List Q→BX
 |[]=>K
 |q::rest=>XQ P q (Ai P K rest)
theorem OW {ops:Array Oper} {esc:List Nat} {i:Nat} {o:Oper} {q:Q} (ho:ops[i]?=some o) (hq:Pm P N esc ops o=some q) {K:BX} (hx:XQ P q K F L σ)
 (h:Ak base g lam Pr N F L σ a w0 w) {Q:Exit→Act→World→Prop}:wpOp P ops Q i (Bz base Pr N w0 g w K) a w:=by
 simp only [Pm,AE,AA] at hq
 obtain ⟨c,hco,hq⟩:=hq
 split at hq
 case isFalse=>cases hq
 rename_i hdst
 have hd:∀k,o.dst=some k→k < N:=fun k hk=>by rw [hk] at hdst;simpa using hdst
 have skip:K (AY o.dst (.tup []) F) L σ→Bz base Pr N w0 g w K (a.put o.dst BW) w:=fun hx=>
  ⟨g,lam,_,L,σ,Gh.le_refl g,KP.refl Pr w,h.AY hd (SV.Bt (x:= .tup []) (v:=BW) (VR.tup (cs:=[]) (vs:=[]) rfl (by simp))),hx⟩
 simp only [wpOp,ho]
 cases hgd:o.guard with
 |none=>
  rw [hgd] at hq
  simp only [AD] at hq;subst hq
  have hx:XO P o.dst K F L σ c:=hx
  have hw:Region.wanted o (yielded ops a.tmps)=true:=by simp [Region.wanted,hgd]
  simp only [hw,if_true]
  exact .inl (Lh hco hd hx h)
 |some gw=>
  obtain ⟨j,want⟩:=gw
  rw [hgd] at hq
  simp only [AA] at hq
  obtain ⟨s,hs,hq⟩:=hq
  split at hq
  case isFalse=>cases hq
  rename_i hsN
  cases hq
  simp only [XQ,gd] at hx
  have hts:a.tmps[s]?=some (a.tmps.getD s BW):=by
   have:s < a.tmps.size:=by rw [h.sz];exact hsN
   simp [this]
  have hsv:=h.tm s
  have hyield:∀v,a.tmps.getD s BW=v→yielded ops a.tmps j=match v with| .bool b=>some b|_=>none:=by
   intro v hv
   unfold yielded
   obtain ⟨oj,hoj,hdj⟩:=hs
   simp only [hoj,BU,hdj,hts,hv]
   cases v<;>rfl
  generalize hvv:a.tmps.getD s BW=vv at hsv
  have hy:=hyield vv hvv
  generalize hFs:F s=fs at hsv hx
  unfold gdV at hx
  split at hx
  · rename_i b
    cases hsv with
    |@d _ _ hh=>
     cases hh with
     |bool=>
      simp only at hy
      by_cases hbw:b=want
      · have hw:Region.wanted o (yielded ops a.tmps)=true:=by simp [Region.wanted,hgd,hy,hbw]
        simp only [hw,if_true]
        simp only [hbw,BEq.rfl,XG] at hx
        exact .inl (Lh hco hd hx h)
      · have hw:Region.wanted o (yielded ops a.tmps)=false:=by simp [Region.wanted,hgd,hy,hbw]
        have hb2:(b==want)=false:=by simp [hbw]
        simp only [hw,A4,if_false]
        simp only [hb2,XG] at hx
        exact skip hx
  · cases hsv with
    |tup hl _=>
     simp only at hy
     have hw:Region.wanted o (yielded ops a.tmps)=false:=by simp [Region.wanted,hgd,hy]
     simp only [hw,A4,if_false]
     exact skip hx
  · exact hx.elim
theorem Li (P:Program) (ops:Array Oper) (N:Nat) (esc:List Nat) (K:BX) {Q:Exit→Act→World→Prop}:∀(l:List Nat) (qs:List Ab.Q) (base:Nat) (g:Gh) (lam:Nat→Option Nat) (Pr:Nat→Prop) (F:Fm) (L:Lm) (σ:AF) (a:Act) (w0 w:World),
 Eo P N esc ops l=some qs→Ai P K qs F L σ→Ak base g lam Pr N F L σ a w0 w→(∀a' w',Bz base Pr N w0 g w K a' w'→Q .normal a' w')→wpOps P ops Q l a w
 |[],qs,base,g,lam,Pr,F,L,σ,a,w0,w,hc,hx,h,hQ=>by
  simp only [Eo,AD] at hc;subst hc
  exact hQ _ _ ⟨g,lam,F,L,σ,Gh.le_refl g,KP.refl Pr w,h,hx⟩
 |i::l,qs,base,g,lam,Pr,F,L,σ,a,w0,w,hc,hx,h,hQ=>by
  simp only [Eo,AE,AA] at hc
  obtain ⟨o,ho,q,hq,qs',hqs,he⟩:=hc
  cases he
  rw [wpOps_cons]
  refine wpOp_mono ?_ (OW ho hq hx h)
  rintro a' w' ⟨g',lam',F',L',σ',h1,h2,h3,h4⟩
  exact Li P ops N esc K l qs' base g' lam' Pr F' L' σ' a' w0 w' hqs h4 h3 (fun a2 w2 hA=>hQ _ _ (Bz.trans h1 h2 hA))
end Go.Ab
