/- Rows of operations: what is to be shown of them at the abstract level, and that it suffices. Conditions: none. -/
import Derived.Test.YtifplkldbbcldaaGreatDoorXAb9d
set_option linter.unusedSimpArgs false
set_option linter.unusedVariables false
set_option maxRecDepth 4000
set_option maxHeartbeats 8000000
open List renaming replicate→Ai,nil_append→A6,take_of_length_le→A8,getElem_of_mem→Cp,getElem?_eq_getElem→Az,length_take→Bj,length_drop→Ah,all_append→Ce,all_cons→CC,all_nil→Lv
open Bool renaming false_eq_true→AL,and_eq_true→AR,and_true→BR
open Nat renaming le_refl→A4,le_trans→Ay,zero_add→Bd,mul_le_mul_right→Aj,add_mul→CM
open Go renaming undef→Cs
open Option renaming bind_some→Cn,bind_eq_some_iff→AF,map_eq_some_iff→AM,bind_eq_bind→AU
open Array renaming range→SN
open Option.some renaming injEq→AQ,inj→DK
namespace Go.Ab
open Go.RowKit
variable {P:Program} {base N:Nat} {g g':Gh} {Pr:Nat→Prop} {σ σ':AK} {w0 w w':World} {lam:Nat→Option Nat} {F:Fm} {L:Lm} {a:Act}
abbrev Cd:=Fm→Lm→AK→Prop
def Av (P:Program) (f:FuncId):Bool:=((P.funcs[f]?).bind (·.body)).isSome&&((P.funcs[f]?).map (·.name)) != some "runtime.NumGoroutine"
def AD (P:Program) (f:FuncId) (args:List AV) (dst:Option Nat) (K:Cd) (F:Fm) (L:Lm) (σ:AK):Prop:=
 args.all AV.BL=true∧∃Q,AP P f args σ Q∧∀v σ',Q v σ'→K (At dst v F) L σ'
def ZK (P:Program) (f:FuncId) (args:List AV) (dst:Option Nat) (K:Cd) (F:Fm) (L:Lm) (σ:AK):Prop:=
 args.all AV.BL=true∧∃v,(v.BL=true∧AP P f args σ (fun v' σ'=>v'=v∧σ'=σ))∧K (At dst v F) L σ
def JJ (e size bytes:Nat) (s x:AV) (dst:Option Nat) (K:Cd) (F:Fm) (L:Lm) (σ:AK):Prop:=
 (∃rows σ1 srows,QA σ e size s=some (rows,σ1)∧x.rows=some srows∧(∀r∈srows,r.length=size)∧rows.length+srows.length≤maxLen∧(rows.length+srows.length) * bytes≤140737488355328∧
   ∀t,σ.tok t=false→K (At dst (.own t e size (rows++srows)) F) L (σ1.CO t))∨
 (∃rows srows,s= .clip rows∧x.rows=some srows∧(∀r∈rows,r.length=size)∧(∀r∈srows,r.length=size)∧rows.length+srows.length≤maxLen∧(rows.length+srows.length) * bytes≤140737488355328∧
   K (At dst (.d (.sl (rows++srows))) F) L σ)
def Th (cs:List AV) (sh:Bool) (dst:Option Nat) (K:Cd) (F:Fm) (L:Lm) (σ:AK):Prop:=
 Ag cs=true∧match dst with
  |none=>False
  |some d=>if sh then ∀i,σ.blk i=none→K (put d (.gp i 0) F) L (σ.AH i cs) else K (put d (.lp d 0) (DS d F)) (Aq d cs L) σ
def XSt (x v:AV) (n:Nat) (dst:Option Nat) (K:Cd) (F:Fm) (L:Lm) (σ:AK):Prop:=
 dst=none∧Ag v.cells=true∧v.cells.length=n∧match stA L σ v.cells x with
  |some (L',σ')=>K F L' σ'
  |none=>False
def hY (e size bytes:Nat) (s x:AV) (dst:Option Nat) (K:Cd) (F:Fm) (L:Lm) (σ:AK):Prop:=
 ∃n cs σ1 srows,UO σ e size s=some (n,cs,σ1)∧x.rows=some srows∧(∀r∈srows,r.length=size)∧(srows=[]→K (At dst s F) L σ)∧n+srows.length≤maxLen∧(n+srows.length) * bytes≤140737488355328∧
  (srows≠[]→∀j,σ.blk j=none→K (At dst (.ms j (n+srows.length) size e) F) L (σ1.AH j (cs++H6 srows)))
def ACB (x h:AV) (dst:Option Nat) (K:Cd) (F:Fm) (L:Lm) (σ:AK):Prop:=
 ∃k s e cs σ1,ADU σ x h=some (k,s,e,cs,σ1)∧∀j,σ.blk j=none→K (At dst (.ms j k s e) F) L (σ1.AH j cs)
def Fh (e size len:Nat) (cells:Option (List AV)) (dst:Option Nat) (K:Cd) (F:Fm) (L:Lm) (σ:AK):Prop:=
 ∃cs,cells=some cs∧((∀j,σ.blk j=none→K (At dst (.ms j len size e) F) L (σ.AH j cs))∨
  (∃ds,dvs cs=some ds∧0 < len∧∀t,σ.tok t=false→K (At dst (.own t e size (chunk size len ds)) F) L (σ.CO t)))
def tJ (e size bytes:Nat) (z:List AV) (l c:AV) (dst:Option Nat) (K:Cd) (F:Fm) (L:Lm) (σ:AK):Prop:=
 ∃k k' n,l= .d (.int k n)∧c= .d (.int k' n)∧0≤n∧bytes * n≤281474976710656∧n≤9223372036854775807∧
  ∀i,σ.blk i=none→K (At dst (.ms i n.toNat size e) F) L (σ.AH i (Ai n.toNat z).flatten)
def XPv (v:Option AV) (dst:Option Nat) (K:Cd) (F:Fm) (L:Lm) (σ:AK):Prop:=
 match v with
 |some v=>K (At dst v F) L σ
 |none=>False
def XEx (k:EK) (args:List AV) (dst:Option Nat) (K:Cd) (F:Fm) (L:Lm) (σ:AK):Prop:=
 if k.pure then XPv (exP k args) dst K F L σ else args.all AV.BL=true∧ExR σ (fun v σ'=>K (At dst v F) L σ') k args
def XO (P:Program) (dst:Option Nat) (K:Cd) (F:Fm) (L:Lm) (σ:AK):O→Prop
 | .box x sh=>Th (xv F x).cells sh dst K F L σ
 | .al z sh=>Th z sh dst K F L σ
 | .st x v n=>XSt (xv F x) (xv F v) n dst K F L σ
 | .msl e size bytes z l c=>tJ e size bytes z (xv F l) (xv F c) dst K F L σ
 | .cF e size bytes s x=>hY e size bytes (xv F s) (xv F x) dst K F L σ
 | .trn x h=>ACB (xv F x) (xv F h) dst K F L σ
 | .Jr e size len z ps=>Fh e size len (Ip z F ps) dst K F L σ
 | .app e size bytes s x=>JJ e size bytes (xv F s) (xv F x) dst K F L σ
 | .call f args=>AD P f (xvs F args) dst K F L σ
 | .E2 x args=>∃f first caps,xv F x= .fn f first caps∧Av P f=true∧AD P f (first++xvs F args++caps) dst K F L σ
 | .Xx f args=>ZK P f (xvs F args) dst K F L σ
 | .ex k xs=>XEx k (xvs F xs) dst K F L σ
 |o=>XPv (pv F L σ o) dst K F L σ
def FG (base:Nat) (Pr:Nat→Prop) (N:Nat) (w0:World) (g:Gh) (w:World) (K:Cd) (a':Act) (w':World):Prop:=
 ∃g' lam' F' L' σ',g.le g'∧KP Pr w w'∧B2 base g' lam' Pr N F' L' σ' a' w0 w'∧K F' L' σ'
theorem FG.trans {K:Cd} {a':Act} {g1:Gh} {w1:World} (hg:g.le g1) (hk:KP Pr w w1) (h:FG base Pr N w0 g1 w1 K a' w'):FG base Pr N w0 g w K a' w':=by
 obtain ⟨g',lam',F',L',σ',h1,h2,h3,h4⟩:=h
 exact ⟨g',lam',F',L',σ',Gh.le_trans hg h1,hk.trans h2,h3,h4⟩
theorem FW {o:Oper} {x:Value} {next:Act→World→Prop} {Q:Exit→Act→World→Prop} (hr:(execOp a.eval o).run P w= .ok (.value x) w') (h:next (a.put o.dst x) w'):o.wp P a w next Q:=by
 unfold Oper.wp;rw [hr];exact h
theorem B3 {sh im lc:Bool} {o:Oper} {c:O} (hc:dV P sh im lc o.op=some c) (hd:∀k,o.dst=some k→k < N) {K:Cd} (hx:XPv (pv F L σ c) o.dst K F L σ)
 (h:B2 base g lam Pr N F L σ a w0 w) {Q:Exit→Act→World→Prop}:o.wp P a w (FG base Pr N w0 g w K) Q:=by
 cases hv:pv F L σ c with
 |none=>rw [hv] at hx;exact hx.elim
 |some v=>
  rw [hv] at hx
  obtain ⟨x,g',w',hr,h1,h2,h3,h4⟩:=wR hc hv base g lam Pr N a w0 w h
  exact FW hr ⟨g',lam,_,L,σ,h1,h2,h4.At hd h3,hx⟩
theorem cA {o:Oper} {cs:List AV} {vs:Array Value} {ty:TypeId} {sh:Bool} (hd:∀k,o.dst=some k→k < N) {K:Cd} (hx:Th cs sh o.dst K F L σ)
 (h:B2 base g lam Pr N F L σ a w0 w) (hr:VRs g cs vs.toList) (hrun:(execOp a.eval o).run P w= .ok (.value (.pointer (some ⟨w.heap.size,0,none⟩))) (w.alloc (.cells vs ty)))
 {Q:Exit→Act→World→Prop}:o.wp P a w (FG base Pr N w0 g w K) Q:=by
 obtain ⟨hok,hx⟩:=hx
 refine FW hrun ?_
 cases hdst:o.dst with
 |none=>rw [hdst] at hx;exact hx.elim
 |some d=>
  rw [hdst] at hx
  have hdn:=hd d hdst
  have hkp:KP Pr w (w.alloc (.cells vs ty)):=⟨by simp,fun b hb=>heap_alloc_old w _ b (h.rel.pr b (.inl hb)).1⟩
  cases sh with
  |false=>
   simp only [AL,if_false] at hx
   have h':B2 base g lam Pr N (DS d F) L σ a w0 w:=by
    refine ⟨fun s=>?_,h.sz,h.df,h.loc,h.inj,h.npr,h.rel⟩
    simp only [DS]
    split
    · exact VR.undef
    · exact h.tm s
   exact ⟨g,_,_,_,σ,Gh.le_refl g,hkp,h'.vS hdn (kS d F) ty hr hok,hx⟩
  |true=>
   simp only [if_true] at hx
   obtain ⟨i,hmu,_,hblk,_⟩:=h.rel.fresh
   have hrel:=h.rel.share (rt:=none) hmu (A4 _) (h.rel.alloc (.cells vs ty)) (heap_alloc_new w _) (fun _ h=>by cases h) hr hok (fun hp=>by have:=(h.rel.pr _ hp).1;omega)
   have hle:=Gh.IU (g:=g) (i:=i) (b:=w.heap.size) (rt:=none) hmu
   have hf:=h.step hle (fun k b hb=>heap_alloc_old w _ b (h.Ie hb)) hrel
   exact ⟨_,lam,_,L,_,hle,hkp,hf.put hdn (v:= .gp i 0) (SV.En (.gp (by simp [Gh.share]))),hx i hblk⟩
theorem tI {o:Oper} {t:TypeId} {y z:Operand} {x xv':X} {n:Nat} (ho:o.op= .store t y z) (hy:xo y=some x) (hz:xo z=some xv') (hn:szT P t=some n) {K:Cd}
 (hx:XSt (xv F x) (xv F xv') n o.dst K F L σ) (h:B2 base g lam Pr N F L σ a w0 w) {Q:Exit→Act→World→Prop}:o.wp P a w (FG base Pr N w0 g w K) Q:=by
 obtain ⟨hdst,hok,hlen,hx⟩:=hx
 cases hst:stA L σ (xv F xv').cells (xv F x) with
 |none=>rw [hst] at hx;exact hx.elim
 |some r=>
  obtain ⟨L',σ'⟩:=r
  rw [hst] at hx
  have hv:=(Ad hz h).vr (NM hok)
  have hc:=hv.cells hok
  obtain ⟨ad,w',hp,hrun,hk,hf⟩:=h.store (P:=P) (Ad hy h) hc hok hst
  have hsz:(a.eval z).cells.size=n:=by have:=hc.length;simpa [hlen] using this
  have:(execOp a.eval o).run P w= .ok .skip w':=by
   unfold execOp
   simp only [ho,hp,Instr.storeAt,Instr.sureAddr,storeVar,Sem.run_bind,Sem.run_pure,Result.andThen_ok,Eb hn]
   simp [hsz,hrun]
  unfold Oper.wp;rw [this]
  show FG base Pr N w0 g w K (a.put o.dst Cs) w'
  rw [hdst]
  exact ⟨g,lam,F,L',σ',Gh.le_refl g,hk,hf,hx⟩
theorem oF {o:Oper} {t e:TypeId} {i:TypeInfo} {zv:Value} {y z:Operand} {x xs:X} (ho:o.op= .call { callee:= .builtin .append,args:=#[y,z],argTypes:=#[t,t]})
 (hy:xo y=some xs) (hz:xo z=some x) (ht:P.underlying t=some (.slice e)) (hi:P.info? e=some i) (hzv:i.zero=some zv) (hzs:zv.cells.size=i.size) (hd:∀k,o.dst=some k→k < N) {K:Cd}
 (hx:JJ e i.size i.bytes (xv F xs) (xv F x) o.dst K F L σ) (h:B2 base g lam Pr N F L σ a w0 w) {Q:Exit→Act→World→Prop}:o.wp P a w (FG base Pr N w0 g w K) Q:=by
 rcases hx with ⟨rows,σ1,srows,hpa,hqr,hss,h63,hby,hk⟩|⟨rows,srows,hs,hqr,hrs,hss,h63,hby,hk⟩
 case inr=>
  obtain ⟨v,g',w',hrun,hle,hkp,hvr,hf⟩:=lJ (ty:=o.type) ht hi hzv hzs h (hs ▸ Ad hy h) (Ad hz h) hqr hrs hss h63 hby
  refine FW (x:=v) (w':=w') ?_ ⟨g',lam,_,L,_,hle,hkp,hf.At hd (SV.En hvr),hk⟩
  unfold execOp
  simp [ho,resolve,invoke,builtin,hrun]
 obtain ⟨v,g',w',t',hrun,hle,hkp,htok,hvr,hf⟩:=qG (ty:=o.type) ht hi hzv hzs h (Ad hy h) (Ad hz h) hpa hqr hss h63 hby
 refine FW (x:=v) (w':=w') ?_ ⟨g',lam,_,L,_,hle,hkp,hf.At hd (SV.En hvr),hk t' htok⟩
 unfold execOp
 simp [ho,resolve,invoke,builtin,hrun]
theorem YJ {o:Oper} {f:FuncId} {args:List AV} {vs:List Value} (hrun:(execOp a.eval o).run P w= .ok (.enter f vs.toArray) w) (hd:∀k,o.dst=some k→k < N) {K:Cd}
 (hv:VRs g args vs) (hx:AD P f args o.dst K F L σ) (h:B2 base g lam Pr N F L σ a w0 w) {Q:Exit→Act→World→Prop}:o.wp P a w (FG base Pr N w0 g w K) Q:=by
 obtain ⟨_,R,hR,hk⟩:=hx
 unfold Oper.wp;rw [hrun]
 refine (hR base g _ w0 w vs h.rel hv).mono fun e w' ⟨v,av,g',σ',he,hvr,hrel,hle,hkp,hq⟩=>?_
 subst he
 have hf:=h.step hle (fun k b hb=>hkp.2 b (.inr ⟨k,hb⟩)) hrel
 exact ⟨g',lam,_,L,σ',hle,⟨hkp.1,fun b hb=>hkp.2 b (.inl hb)⟩,hf.At hd (SV.En hvr),hk av σ' hq⟩
theorem WZ {f:FuncId} (hb:Av P f=true) (args:Array Value):(callFunc f args).run P w= .ok (.enter f args) w:=by
 unfold Av at hb
 simp only [AR] at hb
 obtain ⟨h1,h2⟩:=hb
 cases hf:P.funcs[f]? with
 |none=>simp [hf] at h1
 |some fn=>
  simp only [hf,Cn] at h1
  have h3:fn.name≠ "runtime.NumGoroutine":=by simpa [hf] using h2
  have h4:fn.body≠none:=by cases hbd:fn.body<;>simp [hbd] at h1 ⊢
  unfold callFunc
  simp [hf,h3,h4]
theorem BF {n:Int} (h0:0≤n) (h1:n≤9223372036854775807):IntKind.i64.wrap n=n:=by
 unfold IntKind.wrap
 simp only [IntKind.signed,IntKind.bits]
 have e:n % (2 ^ 64:Int)=n:=Int.emod_eq_of_lt h0 (by omega)
 simp only [e]
 rw [if_neg (by simp;omega)]
theorem oG {o:Oper} {t e:TypeId} {i:TypeInfo} {z:List AV} {y y2:Operand} {x x2:X} (ho:o.op= .makeSlice t y y2) (hy:xo y=some x) (hy2:xo y2=some x2)
 (he:NO P t=some e) (hi:P.info? e=some i) (hz:M7 P e=some z) (hzn:z.length=i.size∧0 < i.size) (hd:∀k,o.dst=some k→k < N) {K:Cd}
 (hx:tJ e i.size i.bytes z (xv F x) (xv F x2) o.dst K F L σ) (h:B2 base g lam Pr N F L σ a w0 w) {Q:Exit→Act→World→Prop}:o.wp P a w (FG base Pr N w0 g w K) Q:=by
 obtain ⟨k,k',n,h1,h2,h0,hb,hm,hk⟩:=hx
 have hs1:=Ad hy h
 have hs2:=Ad hy2 h
 rw [h1] at hs1
 rw [h2] at hs2
 have e1:a.eval y= .int k n:=by generalize a.eval y=vy at hs1;cases hs1 with|d hh=>cases hh;rfl
 have e2:a.eval y2= .int k' n:=by generalize a.eval y2=vy at hs2;cases hs2 with|d hh=>cases hh;rfl
 obtain ⟨i',zv,hi',hzv,hok,hvr⟩:=GU hz
 rw [hi] at hi';cases hi'
 have hzs:zv.cells.size=i.size:=by have:=(hvr g).length;simp at this;omega
 have hu:=GW he
 have hw:=BF h0 hm
 have hno:¬(i.bytes * n>2 ^ 48):=by have:(2:Int) ^ 48=281474976710656:=by decide
                                    omega
 have harr:((if n.toNat * i.size=0 then pure #[] else do pure (← zeroValue e).cells:Sem (Array Value))).run P w= .ok (if n.toNat * i.size=0 then #[] else zv.cells) w:=by
  split<;>simp [zeroValue,typeInfo,hi,hzv]
 have hcells:∃arr:Array Value,(execOp a.eval o).run P w= .ok (.value (.slice (some ⟨w.heap.size,0,none⟩) n.toNat n.toNat)) (w.alloc (.cells arr e))∧arr.toList=(Ai n.toNat zv.cells.toList).flatten:=by
  by_cases h00:n.toNat * i.size=0
  · refine ⟨#[],?_,?_⟩
    · have hr0:SN 0=#[]:=rfl
      unfold execOp
      simp only [ho,e1,e2,Instr.makeSlice,Sem.run_bind,BS hu,Result.andThen_ok,asInt,asIntOf,Sem.run_pure,typeInfo,run_program,hi,hw]
      have c1:¬((decide (n < 0)||decide (i.bytes * n>2 ^ 48))||decide (n < 0)||decide (n>n))=true:=by simp;omega
      simp only [if_neg c1,Sem.run_bind,run_askRoom,Result.andThen_ok,sizeOf,typeInfo,run_program,hi,Sem.run_pure]
      simp only [h00,if_true,pure_bind,hr0,Array.map_empty,newRow,Sem.run_bind,run_newObj,Result.andThen_ok,Sem.run_pure,World.alloc_eq]
    · have:n.toNat=0:=by
       rcases Nat.mul_eq_zero.1 h00 with h|h
       · exact h
       · omega
      simp [this]
  · refine ⟨(SN (n.toNat * i.size)).map (zv.cells[· % zv.cells.size]!),?_,range_zero zv.cells i.size hzs hzn.2 n.toNat⟩
    unfold execOp
    simp only [ho,e1,e2,Instr.makeSlice,Sem.run_bind,BS hu,Result.andThen_ok,asInt,asIntOf,Sem.run_pure,typeInfo,run_program,hi,hw]
    have c1:¬((decide (n < 0)||decide (i.bytes * n>2 ^ 48))||decide (n < 0)||decide (n>n))=true:=by simp;omega
    simp only [if_neg c1,Sem.run_bind,run_askRoom,Result.andThen_ok,sizeOf,typeInfo,run_program,hi,Sem.run_pure]
    simp only [if_neg h00,Sem.run_bind,zeroValue,typeInfo,run_program,Result.andThen_ok,hi,Sem.run_pure,hzv,newRow,run_newObj,World.alloc_eq]
 obtain ⟨arr,hrun,harrl⟩:=hcells
 have hr:VRs g (Ai n.toNat z).flatten arr.toList:=by rw [harrl];exact (hvr g).flatten _
 have hkp:KP Pr w (w.alloc (.cells arr e)):=⟨by simp,fun b hb=>heap_alloc_old w _ b (h.rel.pr b (.inl hb)).1⟩
 obtain ⟨j,hmu,_,hblk,_⟩:=h.rel.fresh
 have hasz:arr.size=n.toNat * i.size:=by
  have h1:arr.toList.length=n.toNat * zv.cells.toList.length:=by rw [harrl,Bk]
  simpa [hzs] using h1
 have hrel:=h.rel.share (rt:=some (n.toNat * i.size,e)) hmu (A4 _) (h.rel.alloc (.cells arr e)) (heap_alloc_new w _) (fun t ht=>by cases ht;exact ⟨hasz,rfl⟩) hr (E4 hok _) (fun hp=>by have:=(h.rel.pr _ hp).1;omega)
 have hle:=Gh.IU (g:=g) (i:=j) (b:=w.heap.size) (rt:=some (n.toNat * i.size,e)) hmu
 have hf:=h.step hle (fun k b hb=>heap_alloc_old w _ b (h.Ie hb)) hrel
 refine FW hrun ⟨_,lam,_,L,_,hle,hkp,hf.At hd (v:= .ms j n.toNat i.size e) (SV.En (.ms (by simp [Gh.share]) (by simp [Gh.share]) (A4 _) (by simp only [maxLen];omega))),hk j hblk⟩
theorem kO {o:Oper} {t e:TypeId} {i:TypeInfo} {zv:Value} {y z:Operand} {x xs:X} (ho:o.op= .call { callee:= .builtin .append,args:=#[y,z],argTypes:=#[t,t]})
 (hy:xo y=some xs) (hz:xo z=some x) (ht:P.underlying t=some (.slice e)) (hi:P.info? e=some i) (hzv:i.zero=some zv) (hzs:zv.cells.size=i.size) (hd:∀k,o.dst=some k→k < N) {K:Cd}
 (hx:hY e i.size i.bytes (xv F xs) (xv F x) o.dst K F L σ) (h:B2 base g lam Pr N F L σ a w0 w) {Q:Exit→Act→World→Prop}:o.wp P a w (FG base Pr N w0 g w K) Q:=by
 obtain ⟨n,cs,σ1,srows,hpa,hqr,hss,hemp,h63,hby,hk⟩:=hx
 by_cases hne:srows=[]
 · subst hne
   have hsv:=Ad hy h
   have hform:∃ad cap,a.eval y= .slice ad n cap∧n≤cap:=by
    generalize a.eval y=vy at hsv
    unfold UO at hpa
    split at hpa
    · rename_i heq;rw [heq] at hsv;cases hpa;cases hsv;exact ⟨_,_,rfl,A4 _⟩
    · rename_i heq
      rw [heq] at hsv
      split at hpa
      · simp only [AF] at hpa
        obtain ⟨cs0,_,hpa⟩:=hpa
        split at hpa
        · cases hpa
          cases hsv with
          |ms _ _ hn _=>exact ⟨_,_,rfl,hn⟩
        · cases hpa
      · cases hpa
    · cases hpa
   obtain ⟨ad,cap,hev,hnc⟩:=hform
   obtain ⟨ad2,cap2,hev2⟩:∃ad2 cap2,a.eval z= .slice ad2 0 cap2:=by
    have hq:=Ad hz h
    generalize a.eval z=vz at hq
    have hn:(xv F x).BL=true:=by
     generalize xv F x=xx at hqr
     cases xx<;>first|rfl|(cases hqr;done)
    obtain ⟨ad2,cap2,he⟩:=VS (hq.vr hn) hqr
    exact ⟨ad2,cap2,he⟩
   have hrun:(Builtin.append_ #[t,t] o.type #[.slice ad n cap,.slice ad2 0 cap2]).run P w= .ok (.slice ad n cap) w:=by
    have hfc:∀sz,(Builtin.firstCells sz 0 (.slice ad2 0 cap2)).run P w= .ok #[] w:=fun sz=>by
     cases ad2<;>simp [Builtin.firstCells,loadCells,loadCellsFrom]
    cases ad<;>simp [Builtin.append_,run_underlying ht,sizeOf,typeInfo,hi,Builtin.lenOf,hnc,hfc,storeCells]
   refine FW (x:= .slice ad n cap) (w':=w) ?_ ⟨g,lam,_,L,σ,Gh.le_refl g,KP.refl Pr w,h.At hd (hev ▸ hsv),hemp rfl⟩
   unfold execOp
   simp [ho,resolve,invoke,builtin,hev,hev2,hrun]
 obtain ⟨v,g',w',j,hrun,hle,hkp,hblk,hvr,hf⟩:=kX (ty:=o.type) ht hi hzv hzs h (Ad hy h) (Ad hz h) hpa hqr hss hne h63 hby
 refine FW (x:=v) (w':=w') ?_ ⟨g',lam,_,L,_,hle,hkp,hf.At hd (SV.En hvr),hk hne j hblk⟩
 unfold execOp
 simp [ho,resolve,invoke,builtin,hrun]
theorem oH {o:Oper} {t e0:TypeId} {sz:Nat} {y z:Operand} {x xh:X} (ho:o.op= .slice t y none (some z) none) (ht:P.underlying t=some (.slice e0)) (hsz:szT P e0=some sz) (hy:xo y=some x) (hz:xo z=some xh)
 (hd:∀k,o.dst=some k→k < N) {K:Cd} (hx:ACB (xv F x) (xv F xh) o.dst K F L σ) (h:B2 base g lam Pr N F L σ a w0 w) {Q:Exit→Act→World→Prop}:o.wp P a w (FG base Pr N w0 g w K) Q:=by
 obtain ⟨k,s,e,cs,σ1,hv,hk⟩:=hx
 obtain ⟨v,g',j,hrun,hle,hblk,hvr,hf⟩:=tD (P:=P) ht hsz h (Ad hy h) (Ad hz h) hv
 refine FW (x:=v) (w':=w) ?_ ⟨g',lam,_,L,_,hle,KP.refl Pr w,hf.At hd (SV.En hvr),hk j hblk⟩
 unfold execOp
 simp [ho,hrun]
theorem kP {o:Oper} {t e:TypeId} {n len:Nat} {z:List AV} {ps:Array (Nat×Operand)} {cps:List (Nat×Nat×X)} (ho:o.op= .buildSlice t len ps) (he:NO P t=some e) (hz:M7 P e=some z) (hn:szT P e=some n)
 (hzn:z.length=n∧0 < n∧len * n≤4096∧len≤4096) (hp:Q4 (fun i=>some (i * n,n)) ps.toList=some cps) (hd:∀k,o.dst=some k→k < N) {K:Cd}
 (hx:Fh e n len (Ip (Ai len z).flatten F cps) o.dst K F L σ) (h:B2 base g lam Pr N F L σ a w0 w) {Q:Exit→Act→World→Prop}:o.wp P a w (FG base Pr N w0 g w K) Q:=by
 obtain ⟨cs,hf,hk⟩:=hx
 obtain ⟨hzl,h0,hsmall,hlen⟩:=hzn
 obtain ⟨i,zv,hi,hzv,hok,hvr⟩:=GU hz
 have hu:=GW he
 have hzs:zv.cells.size=n:=by have:=(hvr g).length;simp at this;omega
 have hinit:VRs g (Ai len z).flatten ((SN (len * n)).map (zv.cells[· % zv.cells.size]!)).toList:=by
  rw [range_zero zv.cells n hzs h0 len];exact (hvr g).flatten len
 obtain ⟨cells,hfill,hr,hck⟩:=QJ h _ ps.toList cps _ _ cs hp hinit (E4 hok len) hf
 have hcl:cells.size=len * n:=by
  have h1:=hr.length
  have h2:=QI F cps _ cs hf
  have h3:=Bk z len
  simp at h1;rw [h1,h2,h3,hzl]
 have hrun:(Instr.buildSlice t len (ps.map fun (i,x)=>(i,a.eval x))).run P w= .ok (.slice (some ⟨w.heap.size,0,none⟩) len len) (w.alloc (.cells cells e)):=by
  have hm:(ps.map fun (i,x)=>(i,a.eval x)).toList=ps.toList.map fun p=>(p.1,a.eval p.2):=by simp
  have hno:¬(len * n>2 ^ 24):=Nat.not_lt.2 (Ay hsmall (by decide))
  unfold Instr.buildSlice
  simp only [Sem.run_bind,BS hu,Result.andThen_ok,Eb hn,hm]
  rw [if_neg hno]
  by_cases h00:len * n=0
  · have hr0:SN 0=#[]:=rfl
    rw [h00,hr0] at hfill
    simp only [h00,if_true,pure_bind,hr0,Array.map_empty] at hfill ⊢
    simp only [hfill,Sem.run_bind,newRow,run_newObj,Result.andThen_ok,Sem.run_pure,World.alloc_eq]
  · simp only [if_neg h00,Sem.run_bind,zeroValue,typeInfo,run_program,Result.andThen_ok,hi,Sem.run_pure,hzv,hfill,newRow,run_newObj,World.alloc_eq]
 have hkp:KP Pr w (w.alloc (.cells cells e)):=⟨by simp,fun b hb=>heap_alloc_old w _ b (h.rel.pr b (.inl hb)).1⟩
 have hexec:(execOp a.eval o).run P w= .ok (.value (.slice (some ⟨w.heap.size,0,none⟩) len len)) (w.alloc (.cells cells e)):=by
  unfold execOp
  simp [ho,hrun]
 obtain ⟨j,hmu,htau,hblk,htok⟩:=h.rel.fresh
 rcases hk with hk|⟨ds,hds,hpos,hk⟩
 rotate_left
 · have hown:(w.alloc (.cells cells e)).ownsRow base e n (.slice (some ⟨w.heap.size,0,none⟩) len len) (0+len) ([]++cells.toList):=
    ⟨by simp [hcl],.inr ⟨w.heap.size,len,cells,by simp,h.rel.bs,heap_alloc_new w _,by omega,by simp only [maxLen];omega,hcl,by
      rw [A6,Bd,A8 (by simp [hcl])]⟩⟩
   have hmine:=cE.nil base g (fun b=>Pr b∨∃k,lam k=some b) σ w e n
   have hgb:w.grownBy (w.alloc (.cells cells e)) (Value.ownBlock (.slice (some ⟨w.heap.size,0,none⟩) len len)):=⟨rfl,rfl,rfl,by simp,fun k hk _=>heap_alloc_old w _ k hk⟩
   have hwh:∀k,Value.ownBlock (.slice (some ⟨w.heap.size,0,none⟩) len len)=some k→Value.ownBlock (.slice none 0 0)=some k∨w.heap.size≤k:=fun k hk=>by
    simp only [Value.ownBlock,AQ] at hk;exact .inr (Nat.le_of_eq hk)
   have hrel:=h.rel.ACY (m:=len) (news:=cells.toList) hmine hown hgb hwh htau
   have hle:=h.rel.Yl (news:=cells.toList) hmine hwh htau
   have hf2:=h.step hle (fun k b hb=>heap_alloc_old w _ b (h.Ie hb)) hrel
   obtain ⟨hll,hrd⟩:=T6 cs ds hds _ (hr.mono hle)
   have h1:=hr.length
   have hrdv:RD (g.grow (.slice (some ⟨w.heap.size,0,none⟩) len len) e n j ([]++cells.toList)).im (.sl (chunk n len ds)) (.slice (some ⟨w.heap.size,0,none⟩) len len):=
    RD.fresh (cells:=cells.toList) (by simp at h1;omega) (by simp only [maxLen];omega) (by simpa using hcl) (fun o v hv=>by
     simp only [Gh.grow,Value.ownBlock,if_true,A6];exact hv) hrd
   refine FW (x:= .slice (some ⟨w.heap.size,0,none⟩) len len) (w':=w.alloc (.cells cells e)) hexec ⟨_,lam,_,L,_,hle,hkp,hf2.At hd (v:= .own j e n (chunk n len ds)) (SV.En (.own hrdv (by simp [Gh.grow]) (fun r hr'=>?_))),hk j htok⟩
   obtain ⟨k,hk1,rfl⟩:=Cp hr'
   have hkl:k < len:=by rw [FQ] at hk1;exact hk1
   have:=T4 n len ds k hkl
   rw [Az hk1] at this
   rw [DK this,Bj,Ah]
   have hdl:ds.length=len * n:=by simp at h1;omega
   have h2:(k+1) * n≤len * n:=Aj _ hkl
   rw [CM] at h2
   omega
 have hrel:=h.rel.share (rt:=some (len * n,e)) hmu (A4 _) (h.rel.alloc (.cells cells e)) (heap_alloc_new w _) (fun t ht=>by cases ht;exact ⟨hcl,rfl⟩) hr hck (fun hp=>by have:=(h.rel.pr _ hp).1;omega)
 have hle:=Gh.IU (g:=g) (i:=j) (b:=w.heap.size) (rt:=some (len * n,e)) hmu
 have hf2:=h.step hle (fun k b hb=>heap_alloc_old w _ b (h.Ie hb)) hrel
 refine FW (x:= .slice (some ⟨w.heap.size,0,none⟩) len len) (w':=w.alloc (.cells cells e)) ?_ ⟨_,lam,_,L,_,hle,hkp,hf2.At hd (v:= .ms j len n e) (SV.En (.ms (by simp [Gh.share]) (by simp [Gh.share]) (A4 _) (by simp only [maxLen];omega))),hk j hblk⟩
 exact hexec
theorem kQ {sh im lc:Bool} {o:Oper} {c:O} (hc:dV P sh im lc o.op=some c) (hd:∀k,o.dst=some k→k < N) {K:Cd} (hx:XO P o.dst K F L σ c)
 (h:B2 base g lam Pr N F L σ a w0 w) {Q:Exit→Act→World→Prop}:o.wp P a w (FG base Pr N w0 g w K) Q:=by
 have hc0:=hc
 cases hop:o.op<;>rw [hop] at hc<;>simp only [dV] at hc
 case alloc t=>
  simp only [AM] at hc
  obtain ⟨z,hz,rfl⟩:=hc
  obtain ⟨i,zv,hi,hzv,hok,hvr⟩:=GU hz
  exact cA (ty:=t) hd hx h (hvr g) (by unfold execOp;simp [hop,Instr.alloc,zeroValue,typeInfo,hi,hzv,newVar,newRow])
 case box t y=>
  simp only [AM] at hc
  obtain ⟨x,hxo,rfl⟩:=hc
  cases im
  case true=>exact B3 hc0 hd hx h
  have hx:Th (xv F x).cells sh o.dst K F L σ:=hx
  have hok:Ag (xv F x).cells=true:=hx.1
  have hv:=((Ad hxo h).vr (NM hok)).cells hok
  exact cA (ty:=t) hd hx h hv (by unfold execOp;simp [hop,Instr.box,newVar,newRow])
 case store t y z=>
  simp only [AU,AF] at hc
  obtain ⟨x,hxo,x2,hxo2,n,hn,he⟩:=hc
  cases he
  exact tI hop hxo hxo2 hn hx h
 case makeSlice t l cc=>
  simp only [AU,AF] at hc
  obtain ⟨e,he,i,hi,z,hz,hh⟩:=hc
  split at hh
  · rename_i hcond
    simp only [AF] at hh
    obtain ⟨xl,hxl,xc,hxc,hh⟩:=hh
    cases hh
    exact oG hop hxl hxc he hi hz hcond hd hx h
  · cases hh
 case call cl=>
  obtain ⟨callee,⟨args⟩,⟨argTypes⟩⟩:=cl
  unfold Ve at hc
  cases callee with
  |invoke r m=>cases hc
  |value fo=>
   cases fo<;>simp only at hc
   · rename_i n
     simp only [AM] at hc
     obtain ⟨xs,hxs,rfl⟩:=hc
     obtain ⟨f,first,caps,hfn,hbody,hx⟩:=hx
     have hall:=hx.1
     simp only [Ce,AR] at hall
     have hs:SV g lam (.fn f first caps) (a.tmps.getD n Cs):=by have:=h.tm n;simp only [xv] at hfn;rwa [hfn] at this
     have hargs:=Px h args xs hxs hall.1.2
     generalize hvn:a.tmps.getD n Cs=vn at hs
     cases hs with
     |@fn _ _ _ fs cs hl hl' h1 h2=>
      refine YJ (vs:=fs++args.map a.eval++cs) ?_ hd (((VRs.O8 _ _ hl h1).append hargs).append (VRs.O8 _ _ hl' h2)) hx h
      unfold execOp
      simp only [hop,resolve,Act.eval,hvn,Deferred.ofValue,Sem.run_bind,Sem.run_pure,Result.andThen_ok,invoke]
      rw [WZ hbody]
      simp
   · cases hc
   · cases hc
   · rename_i f
     split at hc
     · rename_i hb
       simp only [AM] at hc
       obtain ⟨xs,hxs,rfl⟩:=hc
       have hall:(xvs F xs).all AV.BL=true:=hx.1
       refine YJ (vs:=args.map a.eval) ?_ hd (Px h args xs hxs hall) hx h
       unfold execOp
       simp only [hop,resolve,Act.eval,Deferred.ofValue,Sem.run_bind,Sem.run_pure,Result.andThen_ok,invoke]
       rw [WZ hb]
       simp
     · cases hc
  |builtin b=>
   simp only at hc
   unfold uD at hc
   split at hc
   · rename_i x t
     have:∃x',c= .len x'∨c= .Lp x':=by
      cases hu:P.underlying t with
      |none=>rw [hu] at hc;cases hc
      |some d=>
       rw [hu] at hc
       cases d<;>try (cases hc;done)
       · simp only [AM] at hc;obtain ⟨xx,_,rfl⟩:=hc;exact ⟨xx,.inr rfl⟩
       · simp only [AM] at hc;obtain ⟨xx,_,rfl⟩:=hc;exact ⟨xx,.inl rfl⟩
     obtain ⟨x',rfl|rfl⟩:=this
     · exact B3 hc0 hd hx h
     · exact B3 hc0 hd hx h
   · simp only [AU,AF] at hc
     obtain ⟨x,_,x2,_,hh⟩:=hc
     cases hh
     exact B3 hc0 hd hx h
   · simp only [AU,AF] at hc
     obtain ⟨x,_,x2,_,x3,_,hh⟩:=hc
     cases hh
     exact B3 hc0 hd hx h
   · simp only [AU,AF] at hc
     obtain ⟨x,_,x2,_,hh⟩:=hc
     cases hh
     exact B3 hc0 hd hx h
   · simp only [AU,AF] at hc
     obtain ⟨e,he,i,hi,z,hz,hh⟩:=hc
     split at hh
     · rename_i hcond
       obtain ⟨rfl,hzs,hpos⟩:=hcond
       simp only [AF] at hh
       obtain ⟨xs,hxs,x,hx',hh⟩:=hh
       cases sh
       · cases hh
         exact oF hop hxs hx' (GW he) hi hz hzs hd hx h
       · cases hh
         exact kO hop hxs hx' (GW he) hi hz hzs hd hx h
     · cases hh
   · cases hc
 case move y=>
  simp only [AM] at hc
  obtain ⟨x,_,rfl⟩:=hc
  exact B3 hc0 hd hx h
 case assign y=>
  simp only [AM] at hc
  obtain ⟨x,_,rfl⟩:=hc
  exact B3 hc0 hd hx h
 case extract y i=>
  simp only [AM] at hc
  obtain ⟨x,_,rfl⟩:=hc
  exact B3 hc0 hd hx h
 case nilCheck y=>
  simp only [AM] at hc
  obtain ⟨x,_,rfl⟩:=hc
  exact B3 hc0 hd hx h
 case pick y1 y2 y3=>
  simp only [AU,AF] at hc
  obtain ⟨_,_,_,_,_,_,he⟩:=hc
  cases he
  exact B3 hc0 hd hx h
 case fieldAddr s y f=>
  simp only [AU,AF] at hc
  obtain ⟨_,_,_,_,he⟩:=hc
  cases he
  exact B3 hc0 hd hx h
 case load t y=>
  simp only [AU,AF] at hc
  obtain ⟨_,_,_,_,he⟩:=hc
  cases lc
  · cases he
    exact B3 hc0 hd hx h
  · cases he
    exact B3 hc0 hd hx h
 case indexAddr t y i=>
  simp only [AU,AF] at hc
  obtain ⟨_,_,_,_,_,_,_,_,he⟩:=hc
  cases he
  exact B3 hc0 hd hx h
 case index t y i=>
  split at hc
  · simp only [AU,AF] at hc
    obtain ⟨_,_,_,_,he⟩:=hc
    cases he
    exact B3 hc0 hd hx h
  · cases hc
 case field s y f=>
  simp only [AU,AF] at hc
  obtain ⟨_,_,_,_,_,_,he⟩:=hc
  cases he
  exact B3 hc0 hd hx h
 case slice t y lo hi mx=>
  cases hu:P.underlying t with
  |none=>rw [hu] at hc;cases hc
  |some d=>
   rw [hu] at hc
   cases d<;>try (cases hc;done)
   · cases mx with
     |some _=>cases hc
     |none=>
      simp only [AU,AF] at hc
      obtain ⟨x,hx',xl,hxl,xh,hxh,hh⟩:=hc
      cases hh
      exact B3 hc0 hd hx h
   · rename_i e
     cases sh
     · simp only [AL,if_false,AU,AF] at hc
       obtain ⟨x,hx',xl,hxl,xh,hxh,xm,hxm,sz,hsz,hh⟩:=hc
       cases hh
       exact B3 hc0 hd hx h
     · simp only [if_true] at hc
       obtain ⟨rfl,z,rfl,rfl,x,xh,sz,hx',hxh,hsz,rfl⟩:=fH hc
       exact oH hop hu hsz hx' hxh hd hx h
 case binOp op t y z t2=>
  cases hu:P.underlying t with
  |none=>rw [hu] at hc;cases hc
  |some dd=>
  rw [hu] at hc
  cases dd<;>try (cases hc;done)
  case pointer e=>
   obtain ⟨_,ne,x,_,_,rfl⟩:=aC hc
   exact B3 hc0 hd hx h
  case struct fs=>
   have hc:(if PS P t then kI op fs.size y z else none)=some c:=hc
   split at hc
   · obtain ⟨ne,x,xi,_,_,_,rfl⟩:=bM hc
     exact B3 hc0 hd hx h
   · cases hc
  all_goals first
   |(cases hc;done)
   |(simp only [AU,AF] at hc
     obtain ⟨_,_,_,_,he⟩:=hc
     cases he
     exact B3 hc0 hd hx h)
 case unOp op t y=>
  simp only [AU,AF] at hc
  obtain ⟨_,_,he⟩:=hc
  cases he
  exact B3 hc0 hd hx h
 case convert s t y=>
  split at hc
  · simp only [AU,AF] at hc
    obtain ⟨_,_,he⟩:=hc
    cases he
    exact B3 hc0 hd hx h
  · cases hc
 case build t ps=>
  simp only [AU,AF] at hc
  obtain ⟨_,_,_,_,_,_,he⟩:=hc
  cases he
  exact B3 hc0 hd hx h
 case buildSlice t len ps=>
  simp only [AU,AF] at hc
  obtain ⟨_,_,_,_,_,_,hh⟩:=hc
  split at hh
  · rename_i hcond
    simp only [AF] at hh
    obtain ⟨cps,hcps,hh⟩:=hh
    cases sh
    · cases hh
      exact B3 hc0 hd hx h
    · cases hh
      exact kP hop ‹_› ‹_› ‹_› hcond hcps hd hx h
  · cases hh
 case makeFunc fn first caps=>
  cases fn<;>simp only [AU,AF] at hc<;>try (cases hc;done)
  obtain ⟨_,_,_,_,hh⟩:=hc
  cases hh
  exact B3 hc0 hd hx h
 all_goals (cases hc;done)
theorem YI {o:Oper} {m:Sem Value} (ho:∀x w',m.run P w= .ok x w'→(execOp a.eval o).run P w= .ok (.value x) w') {K:Cd} (hd:∀k,o.dst=some k→k < N)
 (h:M9 P m base g lam Pr N F L a w0 w (fun v σ'=>K (At o.dst v F) L σ')) {Q:Exit→Act→World→Prop}:o.wp P a w (FG base Pr N w0 g w K) Q:=by
 obtain ⟨x,g',w',v,σ',hrun,hle,hkp,hvr,hf,hR⟩:=h
 exact FW (ho x w' hrun) ⟨g',lam,_,L,σ',hle,hkp,hf.At hd (SV.En hvr),hR⟩
theorem oE {o:Oper} {m:Sem Value} (ho:∀x w',m.run P w= .ok x w'→(execOp a.eval o).run P w= .ok (.value x) w') {K:Cd} (hd:∀k,o.dst=some k→k < N) (hf:B2 base g lam Pr N F L σ a w0 w) {v:AV}
 (h:∃x,m.run P w= .ok x w∧VR g v x) (hk:K (At o.dst v F) L σ) {Q:Exit→Act→World→Prop}:o.wp P a w (FG base Pr N w0 g w K) Q:=by
 obtain ⟨x,hrun,hvr⟩:=h
 exact FW (ho x w hrun) ⟨g,lam,_,L,σ,Gh.le_refl g,KP.refl Pr w,hf.At hd (SV.En hvr),hk⟩
theorem ZC {v:Option AV} {dst:Option Nat} {K:Cd} (h:XPv v dst K F L σ):∃x,v=some x∧K (At dst x F) L σ:=by
 cases v with
 |none=>exact h.elim
 |some x=>exact ⟨x,rfl,h⟩
theorem Yk {k:EK} {args:List AV} {v:AV} (h:exP k args=some v):args.all AV.BL=true∧U7 k args=some v:=by
 unfold exP at h
 split at h
 · exact ⟨by assumption,h⟩
 · cases h
theorem rP {e:TypeId} (h:uT P e=true):P.underlying e=some (.int .u8):=by
 unfold uT at h
 split at h
 · assumption
 · cases h
theorem aZ {m:Sem Value} {x:Value} (hr:m.run P w= .ok x w'):((do let v ← m;pure (.value v):Sem Next)).run P w= .ok (.value x) w':=by
 simp only [Sem.run_bind,hr,Result.andThen_ok,Sem.run_pure]
theorem tG {sh im:Bool} {o:Oper} {c:O} (hc:uE P sh im o.op=some c) (hd:∀k,o.dst=some k→k < N) {K:Cd} (hx:XO P o.dst K F L σ c)
 (h:B2 base g lam Pr N F L σ a w0 w) {Q:Exit→Act→World→Prop}:o.wp P a w (FG base Pr N w0 g w K) Q:=by
 unfold uE at hc
 split at hc
 · rename_i t hop
   split at hc
   · simp only [AM] at hc
     obtain ⟨z,hz,rfl⟩:=hc
     have hx:([]:List AV).all AV.BL=true∧ExR σ (fun v σ'=>K (At o.dst v F) L σ') (.alt t z) []:=hx
     obtain ⟨x,w',hrun,g',v,σ',h1,h2,h3,h4,h5⟩:=qF (P:=P) hz h hx.2
     exact FW (hrun o hop) ⟨g',lam,_,L,σ',h1,h2,h4.At hd (SV.En h3),h5⟩
   · cases hc
 · rename_i t y hop
   split at hc
   · simp only [AF,AM] at hc
     obtain ⟨n,hn,x,hxo,rfl⟩:=hc
     have hx:([xv F x]:List AV).all AV.BL=true∧ExR σ (fun v σ'=>K (At o.dst v F) L σ') (.iD t n) [xv F x]:=hx
     obtain ⟨z,w',hrun,g',v,σ',h1,h2,h3,h4,h5⟩:=lA (P:=P) hxo h hx.2
     exact FW (hrun o hop) ⟨g',lam,_,L,σ',h1,h2,h4.At hd (SV.En h3),h5⟩
   · cases hc
 · rename_i op t x y t2 hop
   split at hc
   · rename_i e hu
     split at hc
     · simp only [AM] at hc
       obtain ⟨xx,hxx,rfl⟩:=hc
       have hx:[xv F xx].all AV.BL=true∧ExR σ (fun v σ'=>K (At o.dst v F) L σ') (.kG false) [xv F xx]:=hx
       have hv:=(Ad hxx h).vr (by simpa using hx.1)
       exact YI (fun z w' hr=>by unfold execOp;simp only [hop];exact aZ hr) hd (bK (ne:=false) hu h hv hx.2 x (.const (.slice none 0 0)))
     · simp only [AM] at hc
       obtain ⟨xx,hxx,rfl⟩:=hc
       have hx:[xv F xx].all AV.BL=true∧ExR σ (fun v σ'=>K (At o.dst v F) L σ') (.kG true) [xv F xx]:=hx
       have hv:=(Ad hxx h).vr (by simpa using hx.1)
       exact YI (fun z w' hr=>by unfold execOp;simp only [hop];exact aZ hr) hd (bK (ne:=true) hu h hv hx.2 x (.const (.slice none 0 0)))
     · cases hc
   · cases hc
 · rename_i s t x hop
   split at hc
   · rename_i e hus hut
     split at hc
     · rename_i hu8
       simp only [AM] at hc
       obtain ⟨xx,hxx,rfl⟩:=hc
       obtain ⟨v,hv,hk⟩:=ZC (show XPv (exP .b2s [xv F xx]) o.dst K F L σ from hx)
       obtain ⟨hn,hv⟩:=Yk hv
       exact oE (fun z w' hr=>by unfold execOp;simp [hop,hr]) hd h (qM hus (rP hu8) hut h.rel ((Ad hxx h).vr (by simpa using hn)) hv) hk
     · cases hc
   · cases hc
 · rename_i cl hop
   obtain ⟨callee,⟨args⟩,⟨argTypes⟩⟩:=cl
   simp only at hc
   split at hc
   · rename_i b
     unfold uF at hc
     split at hc
     · rename_i x t
       split at hc
       · rename_i e hu
         simp only [AM] at hc
         obtain ⟨xx,hxx,rfl⟩:=hc
         obtain ⟨v,hv,hk⟩:=ZC (show XPv (exP .cap [xv F xx]) o.dst K F L σ from hx)
         obtain ⟨hn,hv⟩:=Yk hv
         exact oE (fun z w' hr=>by unfold execOp;simp [hop,resolve,invoke,builtin,hr]) hd h (qS (ty:=o.type) hu ((Ad hxx h).vr (by simpa using hn)) hv) hk
       · cases hc
     · rename_i x t
       simp only [AF] at hc
       obtain ⟨e,he,i,hi,z,hz,hc⟩:=hc
       split at hc
       · rename_i hcond
         simp only [AM] at hc
         obtain ⟨xx,hxx,rfl⟩:=hc
         have hx:[xv F xx].all AV.BL=true∧ExR σ (fun v σ'=>K (At o.dst v F) L σ') (.clr z) [xv F xx]:=hx
         exact YI (fun z w' hr=>by unfold execOp;simp [hop,resolve,invoke,builtin,hr]) hd (qX (ty:=o.type) (GW he) hi hz hcond.1 h ((Ad hxx h).vr (by simpa using hx.1)) hx.2)
       · cases hc
     · rename_i x y t u
       simp only [AF] at hc
       obtain ⟨e,he,i,hi,hc⟩:=hc
       split at hc
       · rename_i hcond
         obtain ⟨rfl,hpos⟩:=hcond
         simp only [AF,AM] at hc
         obtain ⟨xs,hxs,xx,hxx,rfl⟩:=hc
         have hx:[xv F xs,xv F xx].all AV.BL=true∧ExR σ (fun v σ'=>K (At o.dst v F) L σ') (.cpy i.size) [xv F xs,xv F xx]:=hx
         have hn:=hx.1
         simp only [CC,Lv,BR,AR] at hn
         exact YI (fun z w' hr=>by unfold execOp;simp [hop,resolve,invoke,builtin,hr]) hd (qY (ty:=o.type) (GW he) hi h ((Ad hxs h).vr hn.1) ((Ad hxx h).vr hn.2) hx.2)
       · cases hc
     · rename_i s x t u
       simp only [AF] at hc
       obtain ⟨e,he,i,hi,hc⟩:=hc
       split at hc
       · split at hc
         · rename_i hcond
           obtain ⟨rfl,hpos,hby,hzz⟩:=hcond
           obtain ⟨z0,hz0,hzs0⟩:=AM.1 hzz
           simp only [AF,AM] at hc
           obtain ⟨xs,hxs,xx,hxx,rfl⟩:=hc
           have hx:[xv F xs,xv F xx].all AV.BL=true∧ExR σ (fun v σ'=>K (At o.dst v F) L σ') (.tQ e i.size) [xv F xs,xv F xx]:=hx
           have hn:=hx.1
           simp only [CC,Lv,BR,AR] at hn
           exact YI (fun z w' hr=>by unfold execOp;simp [hop,resolve,invoke,builtin,hr]) hd (kZ (ty:=o.type) (GW he) hi h ((Ad hxs h).vr hn.1) ((Ad hxx h).vr hn.2) hx.2 hpos hz0 hzs0 hby)
         · cases hc
       simp only [AF] at hc
       obtain ⟨z,hz,hc⟩:=hc
       split at hc
       · rename_i hu
         split at hc
         · split at hc
           · rename_i hcond
             obtain ⟨h1,h2,h3⟩:=hcond
             simp only [AF,AM] at hc
             obtain ⟨xs,hxs,xx,hxx,rfl⟩:=hc
             have hx:[xv F xs,xv F xx].all AV.BL=true∧ExR σ (fun v σ'=>K (At o.dst v F) L σ') (.apps e) [xv F xs,xv F xx]:=hx
             have hn:=hx.1
             simp only [CC,Lv,BR,AR] at hn
             exact YI (fun z w' hr=>by unfold execOp;simp [hop,resolve,invoke,builtin,hr]) hd (kY (ty:=o.type) (GW he) hu hi hz h1 h2 h ((Ad hxs h).vr hn.1) ((Ad hxx h).vr hn.2) hx.2)
           · cases hc
         · cases hc
       · rename_i kn hu
         simp only [AF] at hc
         obtain ⟨zc,hzc,hc⟩:=hc
         split at hc
         · rename_i hcond
           obtain ⟨h1,h2,h3⟩:=hcond
           simp only [AF,AM] at hc
           obtain ⟨xs,hxs,xx,hxx,rfl⟩:=hc
           have hx:[xv F xs,xv F xx].all AV.BL=true∧ExR σ (fun v σ'=>K (At o.dst v F) L σ') (.qI e i.size i.bytes zc) [xv F xs,xv F xx]:=hx
           have hn:=hx.1
           simp only [CC,Lv,BR,AR] at hn
           exact YI (fun z w' hr=>by unfold execOp;simp [hop,resolve,invoke,builtin,hr]) hd (k6 (ty:=o.type) (GW he) hu hi hz h2 h3 hzc h1 h ((Ad hxs h).vr hn.1) ((Ad hxx h).vr hn.2) hx.2)
         · cases hc
       · cases hc
     · rename_i x t
       split at hc
       · rename_i e hu
         simp only [AM] at hc
         obtain ⟨xx,hxx,rfl⟩:=hc
         obtain ⟨v,hv,hk⟩:=ZC (show XPv (exP .usd [xv F xx]) o.dst K F L σ from hx)
         obtain ⟨hn,hv⟩:=Yk hv
         exact oE (fun z w' hr=>by unfold execOp;simp [hop,resolve,invoke,builtin,hr]) hd h (tF (ts:=#[t]) (ty:=o.type) ((Ad hxx h).vr (by simpa using hn)) hv) hk
       · cases hc
     · rename_i x y pt it
       split at hc
       · rename_i e hu
         split at hc
         · rename_i hcond
           simp only [AF,AM] at hc
           obtain ⟨xs,hxs,xx,hxx,rfl⟩:=hc
           have hx:[xv F xs,xv F xx].all AV.BL=true∧ExR σ (fun v σ'=>K (At o.dst v F) L σ') (.kM e) [xv F xs,xv F xx]:=hx
           have hn:=hx.1
           simp only [CC,Lv,BR,AR] at hn
           exact YI (fun z w' hr=>by unfold execOp;simp [hop,resolve,invoke,builtin,hr]) hd (oA (it:=it) (ty:=o.type) hu hcond.2 h ((Ad hxs h).vr hn.1) ((Ad hxx h).vr hn.2) hx.2)
         · cases hc
       · cases hc
     · cases hc
   · cases hc
 · cases hc
def lL (P:Program) (sh im lc:Bool) (op:Op):Option O:=
 match uE P sh im op with
 |some c=>some c
 |none=>dV P sh im lc op
theorem cB {sh im lc:Bool} {o:Oper} {c:O} (hc:lL P sh im lc o.op=some c) (hd:∀k,o.dst=some k→k < N) {K:Cd} (hx:XO P o.dst K F L σ c)
 (h:B2 base g lam Pr N F L σ a w0 w) {Q:Exit→Act→World→Prop}:o.wp P a w (FG base Pr N w0 g w K) Q:=by
 unfold lL at hc
 split at hc
 · rename_i he;cases hc;exact tG he hd hx h
 · exact kQ hc hd hx h
def oO (P:Program) (N:Nat) (esc:List Nat) (ops:Array Oper) (o:Oper):Option Q:=do
 let c ← lL P (o.dst.any esc.contains) (o.dst.any fun d=>esc.contains (d+100000)) (o.dst.any fun d=>esc.contains (d+300000)) o.op
 if o.dst.all (· < N) then
  match o.guard with
  |none=>some ⟨o.dst,c,none⟩
  |some (j,want)=>do
   let s ← (ops[j]?).bind (·.dst)
   if s < N then some ⟨o.dst,c,some (s,want)⟩ else none
                                      else none
def NN (P:Program) (N:Nat) (esc:List Nat) (ops:Array Oper):List Nat→Option (List Q)
 |[]=>some []
 |i::l=>do
  let o ← ops[i]?
  let q ← oO P N esc ops o
  some (q::(← NN P N esc ops l))
def gdV (want:Bool):AV→Option Bool
 | .d (.bool b)=>some (b==want)
 | .tup []=>some false
 |_=>none
def gd (F:Fm):Option (Nat×Bool)→Option Bool
 |none=>some true
 |some (s,want)=>gdV want (F s)
def XG (c:Option Bool) (yes no:Prop):Prop:=
 match c with
 |some true=>yes
 |some false=>no
 |none=>False
def XQ (P:Program) (q:Q) (K:Cd) (F:Fm) (L:Lm) (σ:AK):Prop:=
 XG (gd F q.grd) (XO P q.dst K F L σ q.o) (K (At q.dst (.tup []) F) L σ)
def BN (P:Program) (K:Cd):List Q→Cd
 |[]=>K
 |q::rest=>XQ P q (BN P K rest)
theorem kR {ops:Array Oper} {esc:List Nat} {i:Nat} {o:Oper} {q:Q} (ho:ops[i]?=some o) (hq:oO P N esc ops o=some q) {K:Cd} (hx:XQ P q K F L σ)
 (h:B2 base g lam Pr N F L σ a w0 w) {Q:Exit→Act→World→Prop}:wpOp P ops Q i (FG base Pr N w0 g w K) a w:=by
 simp only [oO,AU,AF] at hq
 obtain ⟨c,hco,hq⟩:=hq
 split at hq
 case isFalse=>cases hq
 rename_i hdst
 have hd:∀k,o.dst=some k→k < N:=fun k hk=>by rw [hk] at hdst;simpa using hdst
 have skip:K (At o.dst (.tup []) F) L σ→FG base Pr N w0 g w K (a.put o.dst Cs) w:=fun hx=>
  ⟨g,lam,_,L,σ,Gh.le_refl g,KP.refl Pr w,h.At hd (SV.En (x:= .tup []) (v:=Cs) (VR.tup (cs:=[]) (vs:=[]) rfl (by simp))),hx⟩
 simp only [wpOp,ho]
 cases hgd:o.guard with
 |none=>
  rw [hgd] at hq
  simp only [AQ] at hq;subst hq
  have hx:XO P o.dst K F L σ c:=hx
  have hw:Region.wanted o (yielded ops a.tmps)=true:=by simp [Region.wanted,hgd]
  simp only [hw,if_true]
  exact .inl (cB hco hd hx h)
 |some gw=>
  obtain ⟨j,want⟩:=gw
  rw [hgd] at hq
  simp only [AF] at hq
  obtain ⟨s,hs,hq⟩:=hq
  split at hq
  case isFalse=>cases hq
  rename_i hsN
  cases hq
  simp only [XQ,gd] at hx
  have hts:a.tmps[s]?=some (a.tmps.getD s Cs):=by
   have:s < a.tmps.size:=by rw [h.sz];exact hsN
   simp [this]
  have hsv:=h.tm s
  have hyield:∀v,a.tmps.getD s Cs=v→yielded ops a.tmps j=match v with| .bool b=>some b|_=>none:=by
   intro v hv
   unfold yielded
   obtain ⟨oj,hoj,hdj⟩:=hs
   simp only [hoj,Cn,hdj,hts,hv]
   cases v<;>rfl
  generalize hvv:a.tmps.getD s Cs=vv at hsv
  have hy:=hyield vv hvv
  generalize hFs:F s=fs at hsv hx
  unfold gdV at hx
  split at hx
  · rename_i b
    cases hsv with
    |@d _ _ hh=>
     cases hh with
     |bool=>
      simp only at hy
      by_cases hbw:b=want
      · have hw:Region.wanted o (yielded ops a.tmps)=true:=by simp [Region.wanted,hgd,hy,hbw]
        simp only [hw,if_true]
        simp only [hbw,BEq.rfl,XG] at hx
        exact .inl (cB hco hd hx h)
      · have hw:Region.wanted o (yielded ops a.tmps)=false:=by simp [Region.wanted,hgd,hy,hbw]
        have hb2:(b==want)=false:=by simp [hbw]
        simp only [hw,AL,if_false]
        simp only [hb2,XG] at hx
        exact skip hx
  · cases hsv with
    |tup hl _=>
     simp only at hy
     have hw:Region.wanted o (yielded ops a.tmps)=false:=by simp [Region.wanted,hgd,hy]
     simp only [hw,AL,if_false]
     exact skip hx
  · exact hx.elim
theorem cC (P:Program) (ops:Array Oper) (N:Nat) (esc:List Nat) (K:Cd) {Q:Exit→Act→World→Prop}:∀(l:List Nat) (qs:List Ab.Q) (base:Nat) (g:Gh) (lam:Nat→Option Nat) (Pr:Nat→Prop) (F:Fm) (L:Lm) (σ:AK) (a:Act) (w0 w:World),
 NN P N esc ops l=some qs→BN P K qs F L σ→B2 base g lam Pr N F L σ a w0 w→(∀a' w',FG base Pr N w0 g w K a' w'→Q .normal a' w')→wpOps P ops Q l a w
 |[],qs,base,g,lam,Pr,F,L,σ,a,w0,w,hc,hx,h,hQ=>by
  simp only [NN,AQ] at hc;subst hc
  exact hQ _ _ ⟨g,lam,F,L,σ,Gh.le_refl g,KP.refl Pr w,h,hx⟩
 |i::l,qs,base,g,lam,Pr,F,L,σ,a,w0,w,hc,hx,h,hQ=>by
  simp only [NN,AU,AF] at hc
  obtain ⟨o,ho,q,hq,qs',hqs,he⟩:=hc
  cases he
  rw [wpOps_cons]
  refine wpOp_mono ?_ (kR ho hq hx h)
  rintro a' w' ⟨g',lam',F',L',σ',h1,h2,h3,h4⟩
  exact cC P ops N esc K l qs' base g' lam' Pr F' L' σ' a' w0 w' hqs h4 h3 (fun a2 w2 hA=>hQ _ _ (FG.trans h1 h2 hA))
end Go.Ab
