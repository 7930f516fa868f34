/- Rows of operations: what is to be shown of them at the abstract level, and that it suffices. Conditions: none. -/
import Derived.Test.YtifplkldbbcldaaGreatDoorXAb9d
set_option linter.unusedSimpArgs false
set_option linter.unusedVariables false
set_option maxRecDepth 4000
set_option maxHeartbeats 8000000
open List renaming replicate→Aj,nil_append→A3,take_of_length_le→A8,getElem_of_mem→Ch,getElem?_eq_getElem→Az,length_take→B4,length_drop→An,all_append→CH,all_cons→Bv,all_nil→L8
open Bool renaming false_eq_true→AW,and_eq_true→AN,and_true→BH
open Nat renaming le_refl→A9,le_trans→BD,zero_add→Bb,mul_le_mul_right→Ao,add_mul→CC
open Go renaming undef→Ck
open Option renaming bind_some→BY,bind_eq_some_iff→AD,map_eq_some_iff→AK,bind_eq_bind→AU
open Array renaming range→Re
open Option.some renaming injEq→AR,inj→Iw
namespace Go.Ab
open Go.RowKit
variable {P:Program} {base N:Nat} {g g':Gh} {Pr:Nat→Prop} {σ σ':AM} {w0 w w':World} {lam:Nat→Option Nat} {F:Fm} {L:Lm} {a:Act}
abbrev CV:=Fm→Lm→AM→Prop
def Aw (P:Program) (f:FuncId):Bool:=((P.funcs[f]?).bind (·.body)).isSome&&((P.funcs[f]?).map (·.name)) != some "runtime.NumGoroutine"
def AH (P:Program) (f:FuncId) (args:List AV) (dst:Option Nat) (K:CV) (F:Fm) (L:Lm) (σ:AM):Prop:=
 args.all AV.Ay=true∧∃Q,AP P f args σ Q∧∀v σ',Q v σ'→K (Au dst v F) L σ'
def Xt (P:Program) (f:FuncId) (args:List AV) (dst:Option Nat) (K:CV) (F:Fm) (L:Lm) (σ:AM):Prop:=
 args.all AV.Ay=true∧∃v,(v.Ay=true∧AP P f args σ (fun v' σ'=>v'=v∧σ'=σ))∧K (Au dst v F) L σ
def Kf (e size bytes:Nat) (s x:AV) (dst:Option Nat) (K:CV) (F:Fm) (L:Lm) (σ:AM):Prop:=
 (∃rows σ1 srows,Pm σ e size s=some (rows,σ1)∧x.rows=some srows∧(∀r∈srows,r.length=size)∧rows.length+srows.length≤maxLen∧(rows.length+srows.length) * bytes≤140737488355328∧
   ∀t,σ.tok t=false→K (Au dst (.own t e size (rows++srows)) F) L (σ1.D7 t))∨
 (∃rows srows,s= .clip rows∧x.rows=some srows∧(∀r∈rows,r.length=size)∧(∀r∈srows,r.length=size)∧rows.length+srows.length≤maxLen∧(rows.length+srows.length) * bytes≤140737488355328∧
   K (Au dst (.d (.sl (rows++srows))) F) L σ)
def TU (cs:List AV) (sh:Bool) (dst:Option Nat) (K:CV) (F:Fm) (L:Lm) (σ:AM):Prop:=
 Ak cs=true∧match dst with
  |none=>False
  |some d=>if sh then ∀i,σ.blk i=none→K (put d (.gp i 0) F) L (σ.AL i cs) else K (put d (.lp d 0) (DO d F)) (B8 d cs L) σ
def XSt (x v:AV) (n:Nat) (dst:Option Nat) (K:CV) (F:Fm) (L:Lm) (σ:AM):Prop:=
 dst=none∧Ak v.cells=true∧v.cells.length=n∧match stA L σ v.cells x with
  |some (L',σ')=>K F L' σ'
  |none=>False
def Ri (e size bytes:Nat) (s x:AV) (dst:Option Nat) (K:CV) (F:Fm) (L:Lm) (σ:AM):Prop:=
 ∃n cs σ1 srows,Qh σ e size s=some (n,cs,σ1)∧x.rows=some srows∧(∀r∈srows,r.length=size)∧(srows=[]→K (Au dst s F) L σ)∧n+srows.length≤maxLen∧(n+srows.length) * bytes≤140737488355328∧
  (srows≠[]→∀j,σ.blk j=none→K (Au dst (.ms j (n+srows.length) size e) F) L (σ1.AL j (cs++G7 srows)))
def AAN (x h:AV) (dst:Option Nat) (K:CV) (F:Fm) (L:Lm) (σ:AM):Prop:=
 ∃k s e cs σ1,AB4 σ x h=some (k,s,e,cs,σ1)∧∀j,σ.blk j=none→K (Au dst (.ms j k s e) F) L (σ1.AL j cs)
def I3 (e size len:Nat) (cells:Option (List AV)) (dst:Option Nat) (K:CV) (F:Fm) (L:Lm) (σ:AM):Prop:=
 ∃cs,cells=some cs∧((∀j,σ.blk j=none→K (Au dst (.ms j len size e) F) L (σ.AL j cs))∨
  (∃ds,dvs cs=some ds∧0 < len∧∀t,σ.tok t=false→K (Au dst (.own t e size (chunk size len ds)) F) L (σ.D7 t)))
def r4 (e size bytes:Nat) (z:List AV) (l c:AV) (dst:Option Nat) (K:CV) (F:Fm) (L:Lm) (σ:AM):Prop:=
 ∃k k' n,l= .d (.int k n)∧c= .d (.int k' n)∧0≤n∧bytes * n≤281474976710656∧n≤9223372036854775807∧
  ∀i,σ.blk i=none→K (Au dst (.ms i n.toNat size e) F) L (σ.AL i (Aj n.toNat z).flatten)
def XPv (v:Option AV) (dst:Option Nat) (K:CV) (F:Fm) (L:Lm) (σ:AM):Prop:=
 match v with
 |some v=>K (Au dst v F) L σ
 |none=>False
def XEx (k:EK) (args:List AV) (dst:Option Nat) (K:CV) (F:Fm) (L:Lm) (σ:AM):Prop:=
 if k.pure then XPv (exP k args) dst K F L σ else args.all AV.Ay=true∧ExR σ (fun v σ'=>K (Au dst v F) L σ') k args
def XO (P:Program) (dst:Option Nat) (K:CV) (F:Fm) (L:Lm) (σ:AM):O→Prop
 | .box x sh=>TU (xv F x).cells sh dst K F L σ
 | .al z sh=>TU z sh dst K F L σ
 | .st x v n=>XSt (xv F x) (xv F v) n dst K F L σ
 | .msl e size bytes z l c=>r4 e size bytes z (xv F l) (xv F c) dst K F L σ
 | .Xz e size bytes s x=>Ri e size bytes (xv F s) (xv F x) dst K F L σ
 | .trn x h=>AAN (xv F x) (xv F h) dst K F L σ
 | .Mp e size len z ps=>I3 e size len (Ia z F ps) dst K F L σ
 | .app e size bytes s x=>Kf e size bytes (xv F s) (xv F x) dst K F L σ
 | .call f args=>AH P f (xvs F args) dst K F L σ
 | .EY x args=>∃f first caps,xv F x= .fn f first caps∧Aw P f=true∧AH P f (first++xvs F args++caps) dst K F L σ
 | .Wu f args=>Xt P f (xvs F args) dst K F L σ
 | .ex k xs=>XEx k (xvs F xs) dst K F L σ
 |o=>XPv (pv F L σ o) dst K F L σ
def FF (base:Nat) (Pr:Nat→Prop) (N:Nat) (w0:World) (g:Gh) (w:World) (K:CV) (a':Act) (w':World):Prop:=
 ∃g' lam' F' L' σ',g.le g'∧KP Pr w w'∧B1 base g' lam' Pr N F' L' σ' a' w0 w'∧K F' L' σ'
theorem FF.trans {K:CV} {a':Act} {g1:Gh} {w1:World} (hg:g.le g1) (hk:KP Pr w w1) (h:FF base Pr N w0 g1 w1 K a' w'):FF base Pr N w0 g w K a' w':=by
 obtain ⟨g',lam',F',L',σ',h1,h2,h3,h4⟩:=h
 exact ⟨g',lam',F',L',σ',Gh.le_trans hg h1,hk.trans h2,h3,h4⟩
theorem FR {o:Oper} {x:Value} {next:Act→World→Prop} {Q:Exit→Act→World→Prop} (hr:(execOp a.eval o).run P w= .ok (.value x) w') (h:next (a.put o.dst x) w'):o.wp P a w next Q:=by
 unfold Oper.wp;rw [hr];exact h
theorem B3 {sh im lc:Bool} {o:Oper} {c:O} (hc:bP P sh im lc o.op=some c) (hd:∀k,o.dst=some k→k < N) {K:CV} (hx:XPv (pv F L σ c) o.dst K F L σ)
 (h:B1 base g lam Pr N F L σ a w0 w) {Q:Exit→Act→World→Prop}:o.wp P a w (FF base Pr N w0 g w K) Q:=by
 cases hv:pv F L σ c with
 |none=>rw [hv] at hx;exact hx.elim
 |some v=>
  rw [hv] at hx
  obtain ⟨x,g',w',hr,h1,h2,h3,h4⟩:=vI hc hv base g lam Pr N a w0 w h
  exact FR hr ⟨g',lam,_,L,σ,h1,h2,h4.Au hd h3,hx⟩
theorem Zk {o:Oper} {cs:List AV} {vs:Array Value} {ty:TypeId} {sh:Bool} (hd:∀k,o.dst=some k→k < N) {K:CV} (hx:TU cs sh o.dst K F L σ)
 (h:B1 base g lam Pr N F L σ a w0 w) (hr:VRs g cs vs.toList) (hrun:(execOp a.eval o).run P w= .ok (.value (.pointer (some ⟨w.heap.size,0,none⟩))) (w.alloc (.cells vs ty)))
 {Q:Exit→Act→World→Prop}:o.wp P a w (FF base Pr N w0 g w K) Q:=by
 obtain ⟨hok,hx⟩:=hx
 refine FR hrun ?_
 cases hdst:o.dst with
 |none=>rw [hdst] at hx;exact hx.elim
 |some d=>
  rw [hdst] at hx
  have hdn:=hd d hdst
  have hkp:KP Pr w (w.alloc (.cells vs ty)):=⟨by simp,fun b hb=>heap_alloc_old w _ b (h.rel.pr b (.inl hb)).1⟩
  cases sh with
  |false=>
   simp only [AW,if_false] at hx
   have h':B1 base g lam Pr N (DO d F) L σ a w0 w:=by
    refine ⟨fun s=>?_,h.sz,h.df,h.loc,h.inj,h.npr,h.rel⟩
    simp only [DO]
    split
    · exact VR.undef
    · exact h.tm s
   exact ⟨g,_,_,_,σ,Gh.le_refl g,hkp,h'.uJ hdn (jN d F) ty hr hok,hx⟩
  |true=>
   simp only [if_true] at hx
   obtain ⟨i,hmu,_,hblk,_⟩:=h.rel.fresh
   have hrel:=h.rel.share (rt:=none) hmu (A9 _) (h.rel.alloc (.cells vs ty)) (heap_alloc_new w _) (fun _ h=>by cases h) hr hok (fun hp=>by have:=(h.rel.pr _ hp).1;omega)
   have hle:=Gh.IE (g:=g) (i:=i) (b:=w.heap.size) (rt:=none) hmu
   have hf:=h.step hle (fun k b hb=>heap_alloc_old w _ b (h.IY hb)) hrel
   exact ⟨_,lam,_,L,_,hle,hkp,hf.put hdn (v:= .gp i 0) (SV.E7 (.gp (by simp [Gh.share]))),hx i hblk⟩
theorem rW {o:Oper} {t:TypeId} {y z:Operand} {x xv':X} {n:Nat} (ho:o.op= .store t y z) (hy:xo y=some x) (hz:xo z=some xv') (hn:szT P t=some n) {K:CV}
 (hx:XSt (xv F x) (xv F xv') n o.dst K F L σ) (h:B1 base g lam Pr N F L σ a w0 w) {Q:Exit→Act→World→Prop}:o.wp P a w (FF base Pr N w0 g w K) Q:=by
 obtain ⟨hdst,hok,hlen,hx⟩:=hx
 cases hst:stA L σ (xv F xv').cells (xv F x) with
 |none=>rw [hst] at hx;exact hx.elim
 |some r=>
  obtain ⟨L',σ'⟩:=r
  rw [hst] at hx
  have hv:=(Ai hz h).vr (Mx hok)
  have hc:=hv.cells hok
  obtain ⟨ad,w',hp,hrun,hk,hf⟩:=h.store (P:=P) (Ai hy h) hc hok hst
  have hsz:(a.eval z).cells.size=n:=by have:=hc.length;simpa [hlen] using this
  have:(execOp a.eval o).run P w= .ok .skip w':=by
   unfold execOp
   simp only [ho,hp,Instr.storeAt,Instr.sureAddr,storeVar,Sem.run_bind,Sem.run_pure,Result.andThen_ok,E8 hn]
   simp [hsz,hrun]
  unfold Oper.wp;rw [this]
  show FF base Pr N w0 g w K (a.put o.dst Ck) w'
  rw [hdst]
  exact ⟨g,lam,F,L',σ',Gh.le_refl g,hk,hf,hx⟩
theorem mN {o:Oper} {t e:TypeId} {i:TypeInfo} {zv:Value} {y z:Operand} {x xs:X} (ho:o.op= .call { callee:= .builtin .append,args:=#[y,z],argTypes:=#[t,t]})
 (hy:xo y=some xs) (hz:xo z=some x) (ht:P.underlying t=some (.slice e)) (hi:P.info? e=some i) (hzv:i.zero=some zv) (hzs:zv.cells.size=i.size) (hd:∀k,o.dst=some k→k < N) {K:CV}
 (hx:Kf e i.size i.bytes (xv F xs) (xv F x) o.dst K F L σ) (h:B1 base g lam Pr N F L σ a w0 w) {Q:Exit→Act→World→Prop}:o.wp P a w (FF base Pr N w0 g w K) Q:=by
 rcases hx with ⟨rows,σ1,srows,hpa,hqr,hss,h63,hby,hk⟩|⟨rows,srows,hs,hqr,hrs,hss,h63,hby,hk⟩
 case inr=>
  obtain ⟨v,g',w',hrun,hle,hkp,hvr,hf⟩:=j7 (ty:=o.type) ht hi hzv hzs h (hs ▸ Ai hy h) (Ai hz h) hqr hrs hss h63 hby
  refine FR (x:=v) (w':=w') ?_ ⟨g',lam,_,L,_,hle,hkp,hf.Au hd (SV.E7 hvr),hk⟩
  unfold execOp
  simp [ho,resolve,invoke,builtin,hrun]
 obtain ⟨v,g',w',t',hrun,hle,hkp,htok,hvr,hf⟩:=oS (ty:=o.type) ht hi hzv hzs h (Ai hy h) (Ai hz h) hpa hqr hss h63 hby
 refine FR (x:=v) (w':=w') ?_ ⟨g',lam,_,L,_,hle,hkp,hf.Au hd (SV.E7 hvr),hk t' htok⟩
 unfold execOp
 simp [ho,resolve,invoke,builtin,hrun]
theorem XB {o:Oper} {f:FuncId} {args:List AV} {vs:List Value} (hrun:(execOp a.eval o).run P w= .ok (.enter f vs.toArray) w) (hd:∀k,o.dst=some k→k < N) {K:CV}
 (hv:VRs g args vs) (hx:AH P f args o.dst K F L σ) (h:B1 base g lam Pr N F L σ a w0 w) {Q:Exit→Act→World→Prop}:o.wp P a w (FF base Pr N w0 g w K) Q:=by
 obtain ⟨_,R,hR,hk⟩:=hx
 unfold Oper.wp;rw [hrun]
 refine (hR base g _ w0 w vs h.rel hv).mono fun e w' ⟨v,av,g',σ',he,hvr,hrel,hle,hkp,hq⟩=>?_
 subst he
 have hf:=h.step hle (fun k b hb=>hkp.2 b (.inr ⟨k,hb⟩)) hrel
 exact ⟨g',lam,_,L,σ',hle,⟨hkp.1,fun b hb=>hkp.2 b (.inl hb)⟩,hf.Au hd (SV.E7 hvr),hk av σ' hq⟩
theorem Ve {f:FuncId} (hb:Aw P f=true) (args:Array Value):(callFunc f args).run P w= .ok (.enter f args) w:=by
 unfold Aw at hb
 simp only [AN] at hb
 obtain ⟨h1,h2⟩:=hb
 cases hf:P.funcs[f]? with
 |none=>simp [hf] at h1
 |some fn=>
  simp only [hf,BY] at h1
  have h3:fn.name≠ "runtime.NumGoroutine":=by simpa [hf] using h2
  have h4:fn.body≠none:=by cases hbd:fn.body<;>simp [hbd] at h1 ⊢
  unfold callFunc
  simp [hf,h3,h4]
theorem BF {n:Int} (h0:0≤n) (h1:n≤9223372036854775807):IntKind.i64.wrap n=n:=by
 unfold IntKind.wrap
 simp only [IntKind.signed,IntKind.bits]
 have e:n % (2 ^ 64:Int)=n:=Int.emod_eq_of_lt h0 (by omega)
 simp only [e]
 rw [if_neg (by simp;omega)]
theorem mO {o:Oper} {t e:TypeId} {i:TypeInfo} {z:List AV} {y y2:Operand} {x x2:X} (ho:o.op= .makeSlice t y y2) (hy:xo y=some x) (hy2:xo y2=some x2)
 (he:NA P t=some e) (hi:P.info? e=some i) (hz:MU P e=some z) (hzn:z.length=i.size∧0 < i.size) (hd:∀k,o.dst=some k→k < N) {K:CV}
 (hx:r4 e i.size i.bytes z (xv F x) (xv F x2) o.dst K F L σ) (h:B1 base g lam Pr N F L σ a w0 w) {Q:Exit→Act→World→Prop}:o.wp P a w (FF base Pr N w0 g w K) Q:=by
 obtain ⟨k,k',n,h1,h2,h0,hb,hm,hk⟩:=hx
 have hs1:=Ai hy h
 have hs2:=Ai hy2 h
 rw [h1] at hs1
 rw [h2] at hs2
 have e1:a.eval y= .int k n:=by generalize a.eval y=vy at hs1;cases hs1 with|d hh=>cases hh;rfl
 have e2:a.eval y2= .int k' n:=by generalize a.eval y2=vy at hs2;cases hs2 with|d hh=>cases hh;rfl
 obtain ⟨i',zv,hi',hzv,hok,hvr⟩:=GI hz
 rw [hi] at hi';cases hi'
 have hzs:zv.cells.size=i.size:=by have:=(hvr g).length;simp at this;omega
 have hu:=GK he
 have hw:=BF h0 hm
 have hno:¬(i.bytes * n>2 ^ 48):=by have:(2:Int) ^ 48=281474976710656:=by decide
                                    omega
 have harr:((if n.toNat * i.size=0 then pure #[] else do pure (← zeroValue e).cells:Sem (Array Value))).run P w= .ok (if n.toNat * i.size=0 then #[] else zv.cells) w:=by
  split<;>simp [zeroValue,typeInfo,hi,hzv]
 have hcells:∃arr:Array Value,(execOp a.eval o).run P w= .ok (.value (.slice (some ⟨w.heap.size,0,none⟩) n.toNat n.toNat)) (w.alloc (.cells arr e))∧arr.toList=(Aj n.toNat zv.cells.toList).flatten:=by
  by_cases h00:n.toNat * i.size=0
  · refine ⟨#[],?_,?_⟩
    · have hr0:Re 0=#[]:=rfl
      unfold execOp
      simp only [ho,e1,e2,Instr.makeSlice,Sem.run_bind,BS hu,Result.andThen_ok,asInt,asIntOf,Sem.run_pure,typeInfo,run_program,hi,hw]
      have c1:¬((decide (n < 0)||decide (i.bytes * n>2 ^ 48))||decide (n < 0)||decide (n>n))=true:=by simp;omega
      simp only [if_neg c1,Sem.run_bind,run_askRoom,Result.andThen_ok,sizeOf,typeInfo,run_program,hi,Sem.run_pure]
      simp only [h00,if_true,pure_bind,hr0,Array.map_empty,newRow,Sem.run_bind,run_newObj,Result.andThen_ok,Sem.run_pure,World.alloc_eq]
    · have:n.toNat=0:=by
       rcases Nat.mul_eq_zero.1 h00 with h|h
       · exact h
       · omega
      simp [this]
  · refine ⟨(Re (n.toNat * i.size)).map (zv.cells[· % zv.cells.size]!),?_,range_zero zv.cells i.size hzs hzn.2 n.toNat⟩
    unfold execOp
    simp only [ho,e1,e2,Instr.makeSlice,Sem.run_bind,BS hu,Result.andThen_ok,asInt,asIntOf,Sem.run_pure,typeInfo,run_program,hi,hw]
    have c1:¬((decide (n < 0)||decide (i.bytes * n>2 ^ 48))||decide (n < 0)||decide (n>n))=true:=by simp;omega
    simp only [if_neg c1,Sem.run_bind,run_askRoom,Result.andThen_ok,sizeOf,typeInfo,run_program,hi,Sem.run_pure]
    simp only [if_neg h00,Sem.run_bind,zeroValue,typeInfo,run_program,Result.andThen_ok,hi,Sem.run_pure,hzv,newRow,run_newObj,World.alloc_eq]
 obtain ⟨arr,hrun,harrl⟩:=hcells
 have hr:VRs g (Aj n.toNat z).flatten arr.toList:=by rw [harrl];exact (hvr g).flatten _
 have hkp:KP Pr w (w.alloc (.cells arr e)):=⟨by simp,fun b hb=>heap_alloc_old w _ b (h.rel.pr b (.inl hb)).1⟩
 obtain ⟨j,hmu,_,hblk,_⟩:=h.rel.fresh
 have hasz:arr.size=n.toNat * i.size:=by
  have h1:arr.toList.length=n.toNat * zv.cells.toList.length:=by rw [harrl,Be]
  simpa [hzs] using h1
 have hrel:=h.rel.share (rt:=some (n.toNat * i.size,e)) hmu (A9 _) (h.rel.alloc (.cells arr e)) (heap_alloc_new w _) (fun t ht=>by cases ht;exact ⟨hasz,rfl⟩) hr (EZ hok _) (fun hp=>by have:=(h.rel.pr _ hp).1;omega)
 have hle:=Gh.IE (g:=g) (i:=j) (b:=w.heap.size) (rt:=some (n.toNat * i.size,e)) hmu
 have hf:=h.step hle (fun k b hb=>heap_alloc_old w _ b (h.IY hb)) hrel
 refine FR hrun ⟨_,lam,_,L,_,hle,hkp,hf.Au hd (v:= .ms j n.toNat i.size e) (SV.E7 (.ms (by simp [Gh.share]) (by simp [Gh.share]) (A9 _) (by simp only [maxLen];omega))),hk j hblk⟩
theorem jJ {o:Oper} {t e:TypeId} {i:TypeInfo} {zv:Value} {y z:Operand} {x xs:X} (ho:o.op= .call { callee:= .builtin .append,args:=#[y,z],argTypes:=#[t,t]})
 (hy:xo y=some xs) (hz:xo z=some x) (ht:P.underlying t=some (.slice e)) (hi:P.info? e=some i) (hzv:i.zero=some zv) (hzs:zv.cells.size=i.size) (hd:∀k,o.dst=some k→k < N) {K:CV}
 (hx:Ri e i.size i.bytes (xv F xs) (xv F x) o.dst K F L σ) (h:B1 base g lam Pr N F L σ a w0 w) {Q:Exit→Act→World→Prop}:o.wp P a w (FF base Pr N w0 g w K) Q:=by
 obtain ⟨n,cs,σ1,srows,hpa,hqr,hss,hemp,h63,hby,hk⟩:=hx
 by_cases hne:srows=[]
 · subst hne
   have hsv:=Ai hy h
   have hform:∃ad cap,a.eval y= .slice ad n cap∧n≤cap:=by
    generalize a.eval y=vy at hsv
    unfold Qh at hpa
    split at hpa
    · rename_i heq;rw [heq] at hsv;cases hpa;cases hsv;exact ⟨_,_,rfl,A9 _⟩
    · rename_i heq
      rw [heq] at hsv
      split at hpa
      · simp only [AD] at hpa
        obtain ⟨cs0,_,hpa⟩:=hpa
        split at hpa
        · cases hpa
          cases hsv with
          |ms _ _ hn _=>exact ⟨_,_,rfl,hn⟩
        · cases hpa
      · cases hpa
    · cases hpa
   obtain ⟨ad,cap,hev,hnc⟩:=hform
   obtain ⟨ad2,cap2,hev2⟩:∃ad2 cap2,a.eval z= .slice ad2 0 cap2:=by
    have hq:=Ai hz h
    generalize a.eval z=vz at hq
    have hn:(xv F x).Ay=true:=by
     generalize xv F x=xx at hqr
     cases xx<;>first|rfl|(cases hqr;done)
    obtain ⟨ad2,cap2,he⟩:=Ui (hq.vr hn) hqr
    exact ⟨ad2,cap2,he⟩
   have hrun:(Builtin.append_ #[t,t] o.type #[.slice ad n cap,.slice ad2 0 cap2]).run P w= .ok (.slice ad n cap) w:=by
    have hfc:∀sz,(Builtin.firstCells sz 0 (.slice ad2 0 cap2)).run P w= .ok #[] w:=fun sz=>by
     cases ad2<;>simp [Builtin.firstCells,loadCells,loadCellsFrom]
    cases ad<;>simp [Builtin.append_,run_underlying ht,sizeOf,typeInfo,hi,Builtin.lenOf,hnc,hfc,storeCells]
   refine FR (x:= .slice ad n cap) (w':=w) ?_ ⟨g,lam,_,L,σ,Gh.le_refl g,KP.refl Pr w,h.Au hd (hev ▸ hsv),hemp rfl⟩
   unfold execOp
   simp [ho,resolve,invoke,builtin,hev,hev2,hrun]
 obtain ⟨v,g',w',j,hrun,hle,hkp,hblk,hvr,hf⟩:=jT (ty:=o.type) ht hi hzv hzs h (Ai hy h) (Ai hz h) hpa hqr hss hne h63 hby
 refine FR (x:=v) (w':=w') ?_ ⟨g',lam,_,L,_,hle,hkp,hf.Au hd (SV.E7 hvr),hk hne j hblk⟩
 unfold execOp
 simp [ho,resolve,invoke,builtin,hrun]
theorem mP {o:Oper} {t e0:TypeId} {sz:Nat} {y z:Operand} {x xh:X} (ho:o.op= .slice t y none (some z) none) (ht:P.underlying t=some (.slice e0)) (hsz:szT P e0=some sz) (hy:xo y=some x) (hz:xo z=some xh)
 (hd:∀k,o.dst=some k→k < N) {K:CV} (hx:AAN (xv F x) (xv F xh) o.dst K F L σ) (h:B1 base g lam Pr N F L σ a w0 w) {Q:Exit→Act→World→Prop}:o.wp P a w (FF base Pr N w0 g w K) Q:=by
 obtain ⟨k,s,e,cs,σ1,hv,hk⟩:=hx
 obtain ⟨v,g',j,hrun,hle,hblk,hvr,hf⟩:=rS (P:=P) ht hsz h (Ai hy h) (Ai hz h) hv
 refine FR (x:=v) (w':=w) ?_ ⟨g',lam,_,L,_,hle,KP.refl Pr w,hf.Au hd (SV.E7 hvr),hk j hblk⟩
 unfold execOp
 simp [ho,hrun]
theorem jK {o:Oper} {t e:TypeId} {n len:Nat} {z:List AV} {ps:Array (Nat×Operand)} {cps:List (Nat×Nat×X)} (ho:o.op= .buildSlice t len ps) (he:NA P t=some e) (hz:MU P e=some z) (hn:szT P e=some n)
 (hzn:z.length=n∧0 < n∧len * n≤4096∧len≤4096) (hp:QS (fun i=>some (i * n,n)) ps.toList=some cps) (hd:∀k,o.dst=some k→k < N) {K:CV}
 (hx:I3 e n len (Ia (Aj len z).flatten F cps) o.dst K F L σ) (h:B1 base g lam Pr N F L σ a w0 w) {Q:Exit→Act→World→Prop}:o.wp P a w (FF base Pr N w0 g w K) Q:=by
 obtain ⟨cs,hf,hk⟩:=hx
 obtain ⟨hzl,h0,hsmall,hlen⟩:=hzn
 obtain ⟨i,zv,hi,hzv,hok,hvr⟩:=GI hz
 have hu:=GK he
 have hzs:zv.cells.size=n:=by have:=(hvr g).length;simp at this;omega
 have hinit:VRs g (Aj len z).flatten ((Re (len * n)).map (zv.cells[· % zv.cells.size]!)).toList:=by
  rw [range_zero zv.cells n hzs h0 len];exact (hvr g).flatten len
 obtain ⟨cells,hfill,hr,hck⟩:=Pw h _ ps.toList cps _ _ cs hp hinit (EZ hok len) hf
 have hcl:cells.size=len * n:=by
  have h1:=hr.length
  have h2:=Pv F cps _ cs hf
  have h3:=Be z len
  simp at h1;rw [h1,h2,h3,hzl]
 have hrun:(Instr.buildSlice t len (ps.map fun (i,x)=>(i,a.eval x))).run P w= .ok (.slice (some ⟨w.heap.size,0,none⟩) len len) (w.alloc (.cells cells e)):=by
  have hm:(ps.map fun (i,x)=>(i,a.eval x)).toList=ps.toList.map fun p=>(p.1,a.eval p.2):=by simp
  have hno:¬(len * n>2 ^ 24):=Nat.not_lt.2 (BD hsmall (by decide))
  unfold Instr.buildSlice
  simp only [Sem.run_bind,BS hu,Result.andThen_ok,E8 hn,hm]
  rw [if_neg hno]
  by_cases h00:len * n=0
  · have hr0:Re 0=#[]:=rfl
    rw [h00,hr0] at hfill
    simp only [h00,if_true,pure_bind,hr0,Array.map_empty] at hfill ⊢
    simp only [hfill,Sem.run_bind,newRow,run_newObj,Result.andThen_ok,Sem.run_pure,World.alloc_eq]
  · simp only [if_neg h00,Sem.run_bind,zeroValue,typeInfo,run_program,Result.andThen_ok,hi,Sem.run_pure,hzv,hfill,newRow,run_newObj,World.alloc_eq]
 have hkp:KP Pr w (w.alloc (.cells cells e)):=⟨by simp,fun b hb=>heap_alloc_old w _ b (h.rel.pr b (.inl hb)).1⟩
 have hexec:(execOp a.eval o).run P w= .ok (.value (.slice (some ⟨w.heap.size,0,none⟩) len len)) (w.alloc (.cells cells e)):=by
  unfold execOp
  simp [ho,hrun]
 obtain ⟨j,hmu,htau,hblk,htok⟩:=h.rel.fresh
 rcases hk with hk|⟨ds,hds,hpos,hk⟩
 rotate_left
 · have hown:(w.alloc (.cells cells e)).ownsRow base e n (.slice (some ⟨w.heap.size,0,none⟩) len len) (0+len) ([]++cells.toList):=
    ⟨by simp [hcl],.inr ⟨w.heap.size,len,cells,by simp,h.rel.bs,heap_alloc_new w _,by omega,by simp only [maxLen];omega,hcl,by
      rw [A3,Bb,A8 (by simp [hcl])]⟩⟩
   have hmine:=Zn.nil base g (fun b=>Pr b∨∃k,lam k=some b) σ w e n
   have hgb:w.grownBy (w.alloc (.cells cells e)) (Value.ownBlock (.slice (some ⟨w.heap.size,0,none⟩) len len)):=⟨rfl,rfl,rfl,by simp,fun k hk _=>heap_alloc_old w _ k hk⟩
   have hwh:∀k,Value.ownBlock (.slice (some ⟨w.heap.size,0,none⟩) len len)=some k→Value.ownBlock (.slice none 0 0)=some k∨w.heap.size≤k:=fun k hk=>by
    simp only [Value.ownBlock,AR] at hk;exact .inr (Nat.le_of_eq hk)
   have hrel:=h.rel.AA9 (m:=len) (news:=cells.toList) hmine hown hgb hwh htau
   have hle:=h.rel.Xa (news:=cells.toList) hmine hwh htau
   have hf2:=h.step hle (fun k b hb=>heap_alloc_old w _ b (h.IY hb)) hrel
   obtain ⟨hll,hrd⟩:=TF cs ds hds _ (hr.mono hle)
   have h1:=hr.length
   have hrdv:RD (g.grow (.slice (some ⟨w.heap.size,0,none⟩) len len) e n j ([]++cells.toList)).im (.sl (chunk n len ds)) (.slice (some ⟨w.heap.size,0,none⟩) len len):=
    RD.fresh (cells:=cells.toList) (by simp at h1;omega) (by simp only [maxLen];omega) (by simpa using hcl) (fun o v hv=>by
     simp only [Gh.grow,Value.ownBlock,if_true,A3];exact hv) hrd
   refine FR (x:= .slice (some ⟨w.heap.size,0,none⟩) len len) (w':=w.alloc (.cells cells e)) hexec ⟨_,lam,_,L,_,hle,hkp,hf2.Au hd (v:= .own j e n (chunk n len ds)) (SV.E7 (.own hrdv (by simp [Gh.grow]) (fun r hr'=>?_))),hk j htok⟩
   obtain ⟨k,hk1,rfl⟩:=Ch hr'
   have hkl:k < len:=by rw [FO] at hk1;exact hk1
   have:=TB n len ds k hkl
   rw [Az hk1] at this
   rw [Iw this,B4,An]
   have hdl:ds.length=len * n:=by simp at h1;omega
   have h2:(k+1) * n≤len * n:=Ao _ hkl
   rw [CC] at h2
   omega
 have hrel:=h.rel.share (rt:=some (len * n,e)) hmu (A9 _) (h.rel.alloc (.cells cells e)) (heap_alloc_new w _) (fun t ht=>by cases ht;exact ⟨hcl,rfl⟩) hr hck (fun hp=>by have:=(h.rel.pr _ hp).1;omega)
 have hle:=Gh.IE (g:=g) (i:=j) (b:=w.heap.size) (rt:=some (len * n,e)) hmu
 have hf2:=h.step hle (fun k b hb=>heap_alloc_old w _ b (h.IY hb)) hrel
 refine FR (x:= .slice (some ⟨w.heap.size,0,none⟩) len len) (w':=w.alloc (.cells cells e)) ?_ ⟨_,lam,_,L,_,hle,hkp,hf2.Au hd (v:= .ms j len n e) (SV.E7 (.ms (by simp [Gh.share]) (by simp [Gh.share]) (A9 _) (by simp only [maxLen];omega))),hk j hblk⟩
 exact hexec
theorem jL {sh im lc:Bool} {o:Oper} {c:O} (hc:bP P sh im lc o.op=some c) (hd:∀k,o.dst=some k→k < N) {K:CV} (hx:XO P o.dst K F L σ c)
 (h:B1 base g lam Pr N F L σ a w0 w) {Q:Exit→Act→World→Prop}:o.wp P a w (FF base Pr N w0 g w K) Q:=by
 have hc0:=hc
 cases hop:o.op<;>rw [hop] at hc<;>simp only [bP] at hc
 case alloc t=>
  simp only [AK] at hc
  obtain ⟨z,hz,rfl⟩:=hc
  obtain ⟨i,zv,hi,hzv,hok,hvr⟩:=GI hz
  exact Zk (ty:=t) hd hx h (hvr g) (by unfold execOp;simp [hop,Instr.alloc,zeroValue,typeInfo,hi,hzv,newVar,newRow])
 case box t y=>
  simp only [AK] at hc
  obtain ⟨x,hxo,rfl⟩:=hc
  cases im
  case true=>exact B3 hc0 hd hx h
  have hx:TU (xv F x).cells sh o.dst K F L σ:=hx
  have hok:Ak (xv F x).cells=true:=hx.1
  have hv:=((Ai hxo h).vr (Mx hok)).cells hok
  exact Zk (ty:=t) hd hx h hv (by unfold execOp;simp [hop,Instr.box,newVar,newRow])
 case store t y z=>
  simp only [AU,AD] at hc
  obtain ⟨x,hxo,x2,hxo2,n,hn,he⟩:=hc
  cases he
  exact rW hop hxo hxo2 hn hx h
 case makeSlice t l cc=>
  simp only [AU,AD] at hc
  obtain ⟨e,he,i,hi,z,hz,hh⟩:=hc
  split at hh
  · rename_i hcond
    simp only [AD] at hh
    obtain ⟨xl,hxl,xc,hxc,hh⟩:=hh
    cases hh
    exact mO hop hxl hxc he hi hz hcond hd hx h
  · cases hh
 case call cl=>
  obtain ⟨callee,⟨args⟩,⟨argTypes⟩⟩:=cl
  unfold VI at hc
  cases callee with
  |invoke r m=>cases hc
  |value fo=>
   cases fo<;>simp only at hc
   · rename_i n
     simp only [AK] at hc
     obtain ⟨xs,hxs,rfl⟩:=hc
     obtain ⟨f,first,caps,hfn,hbody,hx⟩:=hx
     have hall:=hx.1
     simp only [CH,AN] at hall
     have hs:SV g lam (.fn f first caps) (a.tmps.getD n Ck):=by have:=h.tm n;simp only [xv] at hfn;rwa [hfn] at this
     have hargs:=Pj h args xs hxs hall.1.2
     generalize hvn:a.tmps.getD n Ck=vn at hs
     cases hs with
     |@fn _ _ _ fs cs hl hl' h1 h2=>
      refine XB (vs:=fs++args.map a.eval++cs) ?_ hd (((VRs.O1 _ _ hl h1).append hargs).append (VRs.O1 _ _ hl' h2)) hx h
      unfold execOp
      simp only [hop,resolve,Act.eval,hvn,Deferred.ofValue,Sem.run_bind,Sem.run_pure,Result.andThen_ok,invoke]
      rw [Ve hbody]
      simp
   · cases hc
   · cases hc
   · rename_i f
     split at hc
     · rename_i hb
       simp only [AK] at hc
       obtain ⟨xs,hxs,rfl⟩:=hc
       have hall:(xvs F xs).all AV.Ay=true:=hx.1
       refine XB (vs:=args.map a.eval) ?_ hd (Pj h args xs hxs hall) hx h
       unfold execOp
       simp only [hop,resolve,Act.eval,Deferred.ofValue,Sem.run_bind,Sem.run_pure,Result.andThen_ok,invoke]
       rw [Ve hb]
       simp
     · cases hc
  |builtin b=>
   simp only at hc
   unfold sT at hc
   split at hc
   · rename_i x t
     have:∃x',c= .len x'∨c= .J3 x':=by
      cases hu:P.underlying t with
      |none=>rw [hu] at hc;cases hc
      |some d=>
       rw [hu] at hc
       cases d<;>try (cases hc;done)
       · simp only [AK] at hc;obtain ⟨xx,_,rfl⟩:=hc;exact ⟨xx,.inr rfl⟩
       · simp only [AK] at hc;obtain ⟨xx,_,rfl⟩:=hc;exact ⟨xx,.inl rfl⟩
     obtain ⟨x',rfl|rfl⟩:=this
     · exact B3 hc0 hd hx h
     · exact B3 hc0 hd hx h
   · simp only [AU,AD] at hc
     obtain ⟨x,_,x2,_,hh⟩:=hc
     cases hh
     exact B3 hc0 hd hx h
   · simp only [AU,AD] at hc
     obtain ⟨x,_,x2,_,x3,_,hh⟩:=hc
     cases hh
     exact B3 hc0 hd hx h
   · simp only [AU,AD] at hc
     obtain ⟨x,_,x2,_,hh⟩:=hc
     cases hh
     exact B3 hc0 hd hx h
   · simp only [AU,AD] at hc
     obtain ⟨e,he,i,hi,z,hz,hh⟩:=hc
     split at hh
     · rename_i hcond
       obtain ⟨rfl,hzs,hpos⟩:=hcond
       simp only [AD] at hh
       obtain ⟨xs,hxs,x,hx',hh⟩:=hh
       cases sh
       · cases hh
         exact mN hop hxs hx' (GK he) hi hz hzs hd hx h
       · cases hh
         exact jJ hop hxs hx' (GK he) hi hz hzs hd hx h
     · cases hh
   · cases hc
 case move y=>
  simp only [AK] at hc
  obtain ⟨x,_,rfl⟩:=hc
  exact B3 hc0 hd hx h
 case assign y=>
  simp only [AK] at hc
  obtain ⟨x,_,rfl⟩:=hc
  exact B3 hc0 hd hx h
 case extract y i=>
  simp only [AK] at hc
  obtain ⟨x,_,rfl⟩:=hc
  exact B3 hc0 hd hx h
 case nilCheck y=>
  simp only [AK] at hc
  obtain ⟨x,_,rfl⟩:=hc
  exact B3 hc0 hd hx h
 case pick y1 y2 y3=>
  simp only [AU,AD] at hc
  obtain ⟨_,_,_,_,_,_,he⟩:=hc
  cases he
  exact B3 hc0 hd hx h
 case fieldAddr s y f=>
  simp only [AU,AD] at hc
  obtain ⟨_,_,_,_,he⟩:=hc
  cases he
  exact B3 hc0 hd hx h
 case load t y=>
  simp only [AU,AD] at hc
  obtain ⟨_,_,_,_,he⟩:=hc
  cases lc
  · cases he
    exact B3 hc0 hd hx h
  · cases he
    exact B3 hc0 hd hx h
 case indexAddr t y i=>
  simp only [AU,AD] at hc
  obtain ⟨_,_,_,_,_,_,_,_,he⟩:=hc
  cases he
  exact B3 hc0 hd hx h
 case index t y i=>
  split at hc
  · simp only [AU,AD] at hc
    obtain ⟨_,_,_,_,he⟩:=hc
    cases he
    exact B3 hc0 hd hx h
  · cases hc
 case field s y f=>
  simp only [AU,AD] at hc
  obtain ⟨_,_,_,_,_,_,he⟩:=hc
  cases he
  exact B3 hc0 hd hx h
 case slice t y lo hi mx=>
  cases hu:P.underlying t with
  |none=>rw [hu] at hc;cases hc
  |some d=>
   rw [hu] at hc
   cases d<;>try (cases hc;done)
   · cases mx with
     |some _=>cases hc
     |none=>
      simp only [AU,AD] at hc
      obtain ⟨x,hx',xl,hxl,xh,hxh,hh⟩:=hc
      cases hh
      exact B3 hc0 hd hx h
   · rename_i e
     cases sh
     · simp only [AW,if_false,AU,AD] at hc
       obtain ⟨x,hx',xl,hxl,xh,hxh,xm,hxm,sz,hsz,hh⟩:=hc
       cases hh
       exact B3 hc0 hd hx h
     · simp only [if_true] at hc
       obtain ⟨rfl,z,rfl,rfl,x,xh,sz,hx',hxh,hsz,rfl⟩:=cV hc
       exact mP hop hu hsz hx' hxh hd hx h
 case binOp op t y z t2=>
  cases hu:P.underlying t with
  |none=>rw [hu] at hc;cases hc
  |some dd=>
  rw [hu] at hc
  cases dd<;>try (cases hc;done)
  case pointer e=>
   obtain ⟨_,ne,x,_,_,rfl⟩:=ZA hc
   exact B3 hc0 hd hx h
  case struct fs=>
   have hc:(if PE P t then jA op fs.size y z else none)=some c:=hc
   split at hc
   · obtain ⟨ne,x,xi,_,_,_,rfl⟩:=Z4 hc
     exact B3 hc0 hd hx h
   · cases hc
  all_goals first
   |(cases hc;done)
   |(simp only [AU,AD] at hc
     obtain ⟨_,_,_,_,he⟩:=hc
     cases he
     exact B3 hc0 hd hx h)
 case unOp op t y=>
  simp only [AU,AD] at hc
  obtain ⟨_,_,he⟩:=hc
  cases he
  exact B3 hc0 hd hx h
 case convert s t y=>
  split at hc
  · simp only [AU,AD] at hc
    obtain ⟨_,_,he⟩:=hc
    cases he
    exact B3 hc0 hd hx h
  · cases hc
 case build t ps=>
  simp only [AU,AD] at hc
  obtain ⟨_,_,_,_,_,_,he⟩:=hc
  cases he
  exact B3 hc0 hd hx h
 case buildSlice t len ps=>
  simp only [AU,AD] at hc
  obtain ⟨_,_,_,_,_,_,hh⟩:=hc
  split at hh
  · rename_i hcond
    simp only [AD] at hh
    obtain ⟨cps,hcps,hh⟩:=hh
    cases sh
    · cases hh
      exact B3 hc0 hd hx h
    · cases hh
      exact jK hop ‹_› ‹_› ‹_› hcond hcps hd hx h
  · cases hh
 case makeFunc fn first caps=>
  cases fn<;>simp only [AU,AD] at hc<;>try (cases hc;done)
  obtain ⟨_,_,_,_,hh⟩:=hc
  cases hh
  exact B3 hc0 hd hx h
 all_goals (cases hc;done)
theorem XA {o:Oper} {m:Sem Value} (ho:∀x w',m.run P w= .ok x w'→(execOp a.eval o).run P w= .ok (.value x) w') {K:CV} (hd:∀k,o.dst=some k→k < N)
 (h:MW P m base g lam Pr N F L a w0 w (fun v σ'=>K (Au o.dst v F) L σ')) {Q:Exit→Act→World→Prop}:o.wp P a w (FF base Pr N w0 g w K) Q:=by
 obtain ⟨x,g',w',v,σ',hrun,hle,hkp,hvr,hf,hR⟩:=h
 exact FR (ho x w' hrun) ⟨g',lam,_,L,σ',hle,hkp,hf.Au hd (SV.E7 hvr),hR⟩
theorem mM {o:Oper} {m:Sem Value} (ho:∀x w',m.run P w= .ok x w'→(execOp a.eval o).run P w= .ok (.value x) w') {K:CV} (hd:∀k,o.dst=some k→k < N) (hf:B1 base g lam Pr N F L σ a w0 w) {v:AV}
 (h:∃x,m.run P w= .ok x w∧VR g v x) (hk:K (Au o.dst v F) L σ) {Q:Exit→Act→World→Prop}:o.wp P a w (FF base Pr N w0 g w K) Q:=by
 obtain ⟨x,hrun,hvr⟩:=h
 exact FR (ho x w hrun) ⟨g,lam,_,L,σ,Gh.le_refl g,KP.refl Pr w,hf.Au hd (SV.E7 hvr),hk⟩
theorem Xh {v:Option AV} {dst:Option Nat} {K:CV} (h:XPv v dst K F L σ):∃x,v=some x∧K (Au dst x F) L σ:=by
 cases v with
 |none=>exact h.elim
 |some x=>exact ⟨x,rfl,h⟩
theorem X8 {k:EK} {args:List AV} {v:AV} (h:exP k args=some v):args.all AV.Ay=true∧Tw k args=some v:=by
 unfold exP at h
 split at h
 · exact ⟨by assumption,h⟩
 · cases h
theorem qC {e:TypeId} (h:tI P e=true):P.underlying e=some (.int .u8):=by
 unfold tI at h
 split at h
 · assumption
 · cases h
theorem ZV {m:Sem Value} {x:Value} (hr:m.run P w= .ok x w'):((do let v ← m;pure (.value v):Sem Next)).run P w= .ok (.value x) w':=by
 simp only [Sem.run_bind,hr,Result.andThen_ok,Sem.run_pure]
theorem rU {sh im:Bool} {o:Oper} {c:O} (hc:sU P sh im o.op=some c) (hd:∀k,o.dst=some k→k < N) {K:CV} (hx:XO P o.dst K F L σ c)
 (h:B1 base g lam Pr N F L σ a w0 w) {Q:Exit→Act→World→Prop}:o.wp P a w (FF base Pr N w0 g w K) Q:=by
 unfold sU at hc
 split at hc
 · rename_i t hop
   split at hc
   · simp only [AK] at hc
     obtain ⟨z,hz,rfl⟩:=hc
     have hx:([]:List AV).all AV.Ay=true∧ExR σ (fun v σ'=>K (Au o.dst v F) L σ') (.alt t z) []:=hx
     obtain ⟨x,w',hrun,g',v,σ',h1,h2,h3,h4,h5⟩:=oR (P:=P) hz h hx.2
     exact FR (hrun o hop) ⟨g',lam,_,L,σ',h1,h2,h4.Au hd (SV.E7 h3),h5⟩
   · cases hc
 · rename_i t y hop
   split at hc
   · simp only [AD,AK] at hc
     obtain ⟨n,hn,x,hxo,rfl⟩:=hc
     have hx:([xv F x]:List AV).all AV.Ay=true∧ExR σ (fun v σ'=>K (Au o.dst v F) L σ') (.Zo t n) [xv F x]:=hx
     obtain ⟨z,w',hrun,g',v,σ',h1,h2,h3,h4,h5⟩:=j0 (P:=P) hxo h hx.2
     exact FR (hrun o hop) ⟨g',lam,_,L,σ',h1,h2,h4.Au hd (SV.E7 h3),h5⟩
   · cases hc
 · rename_i op t x y t2 hop
   split at hc
   · rename_i e hu
     split at hc
     · simp only [AK] at hc
       obtain ⟨xx,hxx,rfl⟩:=hc
       have hx:[xv F xx].all AV.Ay=true∧ExR σ (fun v σ'=>K (Au o.dst v F) L σ') (.iX false) [xv F xx]:=hx
       have hv:=(Ai hxx h).vr (by simpa using hx.1)
       exact XA (fun z w' hr=>by unfold execOp;simp only [hop];exact ZV hr) hd (Z3 (ne:=false) hu h hv hx.2 x (.const (.slice none 0 0)))
     · simp only [AK] at hc
       obtain ⟨xx,hxx,rfl⟩:=hc
       have hx:[xv F xx].all AV.Ay=true∧ExR σ (fun v σ'=>K (Au o.dst v F) L σ') (.iX true) [xv F xx]:=hx
       have hv:=(Ai hxx h).vr (by simpa using hx.1)
       exact XA (fun z w' hr=>by unfold execOp;simp only [hop];exact ZV hr) hd (Z3 (ne:=true) hu h hv hx.2 x (.const (.slice none 0 0)))
     · cases hc
   · cases hc
 · rename_i s t x hop
   split at hc
   · rename_i e hus hut
     split at hc
     · rename_i hu8
       simp only [AK] at hc
       obtain ⟨xx,hxx,rfl⟩:=hc
       obtain ⟨v,hv,hk⟩:=Xh (show XPv (exP .b2s [xv F xx]) o.dst K F L σ from hx)
       obtain ⟨hn,hv⟩:=X8 hv
       exact mM (fun z w' hr=>by unfold execOp;simp [hop,hr]) hd h (oY hus (qC hu8) hut h.rel ((Ai hxx h).vr (by simpa using hn)) hv) hk
     · cases hc
   · cases hc
 · rename_i cl hop
   obtain ⟨callee,⟨args⟩,⟨argTypes⟩⟩:=cl
   simp only at hc
   split at hc
   · rename_i b
     unfold sV at hc
     split at hc
     · rename_i x t
       split at hc
       · rename_i e hu
         simp only [AK] at hc
         obtain ⟨xx,hxx,rfl⟩:=hc
         obtain ⟨v,hv,hk⟩:=Xh (show XPv (exP .cap [xv F xx]) o.dst K F L σ from hx)
         obtain ⟨hn,hv⟩:=X8 hv
         exact mM (fun z w' hr=>by unfold execOp;simp [hop,resolve,invoke,builtin,hr]) hd h (pB (ty:=o.type) hu ((Ai hxx h).vr (by simpa using hn)) hv) hk
       · cases hc
     · rename_i x t
       simp only [AD] at hc
       obtain ⟨e,he,i,hi,z,hz,hc⟩:=hc
       split at hc
       · rename_i hcond
         simp only [AK] at hc
         obtain ⟨xx,hxx,rfl⟩:=hc
         have hx:[xv F xx].all AV.Ay=true∧ExR σ (fun v σ'=>K (Au o.dst v F) L σ') (.clr z) [xv F xx]:=hx
         exact XA (fun z w' hr=>by unfold execOp;simp [hop,resolve,invoke,builtin,hr]) hd (pG (ty:=o.type) (GK he) hi hz hcond.1 h ((Ai hxx h).vr (by simpa using hx.1)) hx.2)
       · cases hc
     · rename_i x y t u
       simp only [AD] at hc
       obtain ⟨e,he,i,hi,hc⟩:=hc
       split at hc
       · rename_i hcond
         obtain ⟨rfl,hpos⟩:=hcond
         simp only [AD,AK] at hc
         obtain ⟨xs,hxs,xx,hxx,rfl⟩:=hc
         have hx:[xv F xs,xv F xx].all AV.Ay=true∧ExR σ (fun v σ'=>K (Au o.dst v F) L σ') (.cpy i.size) [xv F xs,xv F xx]:=hx
         have hn:=hx.1
         simp only [Bv,L8,BH,AN] at hn
         exact XA (fun z w' hr=>by unfold execOp;simp [hop,resolve,invoke,builtin,hr]) hd (pH (ty:=o.type) (GK he) hi h ((Ai hxs h).vr hn.1) ((Ai hxx h).vr hn.2) hx.2)
       · cases hc
     · rename_i s x t u
       simp only [AD] at hc
       obtain ⟨e,he,i,hi,hc⟩:=hc
       split at hc
       · split at hc
         · rename_i hcond
           obtain ⟨rfl,hpos,hby,hzz⟩:=hcond
           obtain ⟨z0,hz0,hzs0⟩:=AK.1 hzz
           simp only [AD,AK] at hc
           obtain ⟨xs,hxs,xx,hxx,rfl⟩:=hc
           have hx:[xv F xs,xv F xx].all AV.Ay=true∧ExR σ (fun v σ'=>K (Au o.dst v F) L σ') (.sE e i.size) [xv F xs,xv F xx]:=hx
           have hn:=hx.1
           simp only [Bv,L8,BH,AN] at hn
           exact XA (fun z w' hr=>by unfold execOp;simp [hop,resolve,invoke,builtin,hr]) hd (jV (ty:=o.type) (GK he) hi h ((Ai hxs h).vr hn.1) ((Ai hxx h).vr hn.2) hx.2 hpos hz0 hzs0 hby)
         · cases hc
       simp only [AD] at hc
       obtain ⟨z,hz,hc⟩:=hc
       split at hc
       · rename_i hu
         split at hc
         · split at hc
           · rename_i hcond
             obtain ⟨h1,h2,h3⟩:=hcond
             simp only [AD,AK] at hc
             obtain ⟨xs,hxs,xx,hxx,rfl⟩:=hc
             have hx:[xv F xs,xv F xx].all AV.Ay=true∧ExR σ (fun v σ'=>K (Au o.dst v F) L σ') (.apps e) [xv F xs,xv F xx]:=hx
             have hn:=hx.1
             simp only [Bv,L8,BH,AN] at hn
             exact XA (fun z w' hr=>by unfold execOp;simp [hop,resolve,invoke,builtin,hr]) hd (jU (ty:=o.type) (GK he) hu hi hz h1 h2 h ((Ai hxs h).vr hn.1) ((Ai hxx h).vr hn.2) hx.2)
           · cases hc
         · cases hc
       · rename_i kn hu
         simp only [AD] at hc
         obtain ⟨zc,hzc,hc⟩:=hc
         split at hc
         · rename_i hcond
           obtain ⟨h1,h2,h3⟩:=hcond
           simp only [AD,AK] at hc
           obtain ⟨xs,hxs,xx,hxx,rfl⟩:=hc
           have hx:[xv F xs,xv F xx].all AV.Ay=true∧ExR σ (fun v σ'=>K (Au o.dst v F) L σ') (.oU e i.size i.bytes zc) [xv F xs,xv F xx]:=hx
           have hn:=hx.1
           simp only [Bv,L8,BH,AN] at hn
           exact XA (fun z w' hr=>by unfold execOp;simp [hop,resolve,invoke,builtin,hr]) hd (jX (ty:=o.type) (GK he) hu hi hz h2 h3 hzc h1 h ((Ai hxs h).vr hn.1) ((Ai hxx h).vr hn.2) hx.2)
         · cases hc
       · cases hc
     · rename_i x t
       split at hc
       · rename_i e hu
         simp only [AK] at hc
         obtain ⟨xx,hxx,rfl⟩:=hc
         obtain ⟨v,hv,hk⟩:=Xh (show XPv (exP .usd [xv F xx]) o.dst K F L σ from hx)
         obtain ⟨hn,hv⟩:=X8 hv
         exact mM (fun z w' hr=>by unfold execOp;simp [hop,resolve,invoke,builtin,hr]) hd h (rT (ts:=#[t]) (ty:=o.type) ((Ai hxx h).vr (by simpa using hn)) hv) hk
       · cases hc
     · rename_i x y pt it
       split at hc
       · rename_i e hu
         split at hc
         · rename_i hcond
           simp only [AD,AK] at hc
           obtain ⟨xs,hxs,xx,hxx,rfl⟩:=hc
           have hx:[xv F xs,xv F xx].all AV.Ay=true∧ExR σ (fun v σ'=>K (Au o.dst v F) L σ') (.jG e) [xv F xs,xv F xx]:=hx
           have hn:=hx.1
           simp only [Bv,L8,BH,AN] at hn
           exact XA (fun z w' hr=>by unfold execOp;simp [hop,resolve,invoke,builtin,hr]) hd (mJ (it:=it) (ty:=o.type) hu hcond.2 h ((Ai hxs h).vr hn.1) ((Ai hxx h).vr hn.2) hx.2)
         · cases hc
       · cases hc
     · cases hc
   · cases hc
 · cases hc
def j9 (P:Program) (sh im lc:Bool) (op:Op):Option O:=
 match sU P sh im op with
 |some c=>some c
 |none=>bP P sh im lc op
theorem Zl {sh im lc:Bool} {o:Oper} {c:O} (hc:j9 P sh im lc o.op=some c) (hd:∀k,o.dst=some k→k < N) {K:CV} (hx:XO P o.dst K F L σ c)
 (h:B1 base g lam Pr N F L σ a w0 w) {Q:Exit→Act→World→Prop}:o.wp P a w (FF base Pr N w0 g w K) Q:=by
 unfold j9 at hc
 split at hc
 · rename_i he;cases hc;exact rU he hd hx h
 · exact jL hc hd hx h
def mY (P:Program) (N:Nat) (esc:List Nat) (ops:Array Oper) (o:Oper):Option Q:=do
 let c ← j9 P (o.dst.any esc.contains) (o.dst.any fun d=>esc.contains (d+100000)) (o.dst.any fun d=>esc.contains (d+300000)) o.op
 if o.dst.all (· < N) then
  match o.guard with
  |none=>some ⟨o.dst,c,none⟩
  |some (j,want)=>do
   let s ← (ops[j]?).bind (·.dst)
   if s < N then some ⟨o.dst,c,some (s,want)⟩ else none
                                      else none
def My (P:Program) (N:Nat) (esc:List Nat) (ops:Array Oper):List Nat→Option (List Q)
 |[]=>some []
 |i::l=>do
  let o ← ops[i]?
  let q ← mY P N esc ops o
  some (q::(← My P N esc ops l))
def gdV (want:Bool):AV→Option Bool
 | .d (.bool b)=>some (b==want)
 | .tup []=>some false
 |_=>none
def gd (F:Fm):Option (Nat×Bool)→Option Bool
 |none=>some true
 |some (s,want)=>gdV want (F s)
def XG (c:Option Bool) (yes no:Prop):Prop:=
 match c with
 |some true=>yes
 |some false=>no
 |none=>False
def XQ (P:Program) (q:Q) (K:CV) (F:Fm) (L:Lm) (σ:AM):Prop:=
 XG (gd F q.grd) (XO P q.dst K F L σ q.o) (K (Au q.dst (.tup []) F) L σ)
def BN (P:Program) (K:CV):List Q→CV
 |[]=>K
 |q::rest=>XQ P q (BN P K rest)
theorem jM {ops:Array Oper} {esc:List Nat} {i:Nat} {o:Oper} {q:Q} (ho:ops[i]?=some o) (hq:mY P N esc ops o=some q) {K:CV} (hx:XQ P q K F L σ)
 (h:B1 base g lam Pr N F L σ a w0 w) {Q:Exit→Act→World→Prop}:wpOp P ops Q i (FF base Pr N w0 g w K) a w:=by
 simp only [mY,AU,AD] at hq
 obtain ⟨c,hco,hq⟩:=hq
 split at hq
 case isFalse=>cases hq
 rename_i hdst
 have hd:∀k,o.dst=some k→k < N:=fun k hk=>by rw [hk] at hdst;simpa using hdst
 have skip:K (Au o.dst (.tup []) F) L σ→FF base Pr N w0 g w K (a.put o.dst Ck) w:=fun hx=>
  ⟨g,lam,_,L,σ,Gh.le_refl g,KP.refl Pr w,h.Au hd (SV.E7 (x:= .tup []) (v:=Ck) (VR.tup (cs:=[]) (vs:=[]) rfl (by simp))),hx⟩
 simp only [wpOp,ho]
 cases hgd:o.guard with
 |none=>
  rw [hgd] at hq
  simp only [AR] at hq;subst hq
  have hx:XO P o.dst K F L σ c:=hx
  have hw:Region.wanted o (yielded ops a.tmps)=true:=by simp [Region.wanted,hgd]
  simp only [hw,if_true]
  exact .inl (Zl hco hd hx h)
 |some gw=>
  obtain ⟨j,want⟩:=gw
  rw [hgd] at hq
  simp only [AD] at hq
  obtain ⟨s,hs,hq⟩:=hq
  split at hq
  case isFalse=>cases hq
  rename_i hsN
  cases hq
  simp only [XQ,gd] at hx
  have hts:a.tmps[s]?=some (a.tmps.getD s Ck):=by
   have:s < a.tmps.size:=by rw [h.sz];exact hsN
   simp [this]
  have hsv:=h.tm s
  have hyield:∀v,a.tmps.getD s Ck=v→yielded ops a.tmps j=match v with| .bool b=>some b|_=>none:=by
   intro v hv
   unfold yielded
   obtain ⟨oj,hoj,hdj⟩:=hs
   simp only [hoj,BY,hdj,hts,hv]
   cases v<;>rfl
  generalize hvv:a.tmps.getD s Ck=vv at hsv
  have hy:=hyield vv hvv
  generalize hFs:F s=fs at hsv hx
  unfold gdV at hx
  split at hx
  · rename_i b
    cases hsv with
    |@d _ _ hh=>
     cases hh with
     |bool=>
      simp only at hy
      by_cases hbw:b=want
      · have hw:Region.wanted o (yielded ops a.tmps)=true:=by simp [Region.wanted,hgd,hy,hbw]
        simp only [hw,if_true]
        simp only [hbw,BEq.rfl,XG] at hx
        exact .inl (Zl hco hd hx h)
      · have hw:Region.wanted o (yielded ops a.tmps)=false:=by simp [Region.wanted,hgd,hy,hbw]
        have hb2:(b==want)=false:=by simp [hbw]
        simp only [hw,AW,if_false]
        simp only [hb2,XG] at hx
        exact skip hx
  · cases hsv with
    |tup hl _=>
     simp only at hy
     have hw:Region.wanted o (yielded ops a.tmps)=false:=by simp [Region.wanted,hgd,hy]
     simp only [hw,AW,if_false]
     exact skip hx
  · exact hx.elim
theorem Zm (P:Program) (ops:Array Oper) (N:Nat) (esc:List Nat) (K:CV) {Q:Exit→Act→World→Prop}:∀(l:List Nat) (qs:List Ab.Q) (base:Nat) (g:Gh) (lam:Nat→Option Nat) (Pr:Nat→Prop) (F:Fm) (L:Lm) (σ:AM) (a:Act) (w0 w:World),
 My P N esc ops l=some qs→BN P K qs F L σ→B1 base g lam Pr N F L σ a w0 w→(∀a' w',FF base Pr N w0 g w K a' w'→Q .normal a' w')→wpOps P ops Q l a w
 |[],qs,base,g,lam,Pr,F,L,σ,a,w0,w,hc,hx,h,hQ=>by
  simp only [My,AR] at hc;subst hc
  exact hQ _ _ ⟨g,lam,F,L,σ,Gh.le_refl g,KP.refl Pr w,h,hx⟩
 |i::l,qs,base,g,lam,Pr,F,L,σ,a,w0,w,hc,hx,h,hQ=>by
  simp only [My,AU,AD] at hc
  obtain ⟨o,ho,q,hq,qs',hqs,he⟩:=hc
  cases he
  rw [wpOps_cons]
  refine wpOp_mono ?_ (jM ho hq hx h)
  rintro a' w' ⟨g',lam',F',L',σ',h1,h2,h3,h4⟩
  exact Zm P ops N esc K l qs' base g' lam' Pr F' L' σ' a' w0 w' hqs h4 h3 (fun a2 w2 hA=>hQ _ _ (FF.trans h1 h2 hA))
end Go.Ab
