/- Data types of package api as plain data. Guarded operations that change nothing, run whatever the guard is. The parser's state in memory; its steps over single tokens. Lists that the parser builds: rows that it owns. Lists of the parser: items, listed, closed, option. Conditions: none. -/
import Derived.Test.YtifplkldbbcldaaGreatDoorXRa
set_option linter.unusedSimpArgs false
set_option linter.unusedVariables false
set_option maxRecDepth 4000
set_option maxHeartbeats 8000000
open Bool renaming eq_iff_iff→IF
open List renaming getElem?_map→Av,getElem?_append_right→Au,getElem?_eq_some_iff→A8,length_pos_iff→Aq,length_map→AI,length_append→AA,length_cons→AD,length_nil→AF,map_cons→AE,map_nil→AH,map_append→B1
open Nat renaming le_refl→A7,le_trans→Az
namespace Go.Ab
structure Con where
 name:List UInt8
 args:List Ty
structure Dat where
 name:List UInt8
 vars:Int
 cons:List Con
def Con.enc (c:Con):List DV:=[.str c.name,.sl (Ty.M0 c.args)]
def Dat.enc (d:Dat):List DV:=[.str d.name,.int .i64 d.vars,.sl (d.cons.map Con.enc)]
theorem Th (a b:List UInt8):ZE .eql a b=some (.d (.bool (a==b))):=rfl
theorem BV (a b:List UInt8):ZE .neq a b=some (.d (.bool (!(a==b)))):=rfl
theorem gtN (n k:Nat):decide ((k:Int) < (n:Int))=!decide (n≤k):=by
 rw [IF];simp
theorem leN (n k:Nat):decide ((n:Int)≤(k:Int))=decide (n≤k):=decide_eq_decide.2 (by omega)
theorem ltN (n k:Nat):decide ((n:Int) < (k:Int))=decide (n < k):=decide_eq_decide.2 (by omega)
theorem EF {a b:Int} (h:a≠b):(a==b)=false:=by simpa using h
end Go.Ab
namespace Go.Ab
open Go.RowKit
variable {P:Program} {K:CP} {F:Fm} {L:Lm} {σ:AN}
def sel (c:Bool) (v:AV):AV:=if c then v else .tup []
theorem fU (v:AV):sel true v=v:=rfl
def GV (want:Bool) (x:AV) (c:Bool):Prop:=gdV want x=some c
theorem GV.t {b:Bool}:GV true (.d (.bool b)) b:=by cases b<;>rfl
theorem GV.f {b:Bool}:GV false (.d (.bool b)) (!b):=by cases b<;>rfl
theorem GV.st {b c:Bool}:GV true (sel c (.d (.bool b))) (c&&b):=by cases b<;>cases c<;>rfl
theorem GV.sf {b c:Bool}:GV false (sel c (.d (.bool b))) (c&& !b):=by cases b<;>cases c<;>rfl
def Is (d:Nat) (v:AV) (F:Fm) (L:Lm) (σ:AN):CP:=fun F' L' σ'=>F'=put d v F∧L'=L∧σ'=σ
theorem Is.mk {d:Nat} {v:AV}:Is d v F L σ (put d v F) L σ:=⟨rfl,rfl,rfl⟩
theorem w3 {d s:Nat} {o:O} {want c:Bool} {v:AV} {r:List Q} (hg:GV want (F s) c)
 (hy:c=true→BM P (Is d v F L σ) [⟨some d,o,none⟩] F L σ)
 (hk:BM P K r (put d (sel c v) F) L σ):BM P K (⟨some d,o,some (s,want)⟩::r) F L σ:=by
 show XG (gd F (some (s,want))) (XO P (some d) (BM P K r) F L σ o) (BM P K r (An (some d) (.tup []) F) L σ)
 have hgd:gd F (some (s,want))=some c:=hg
 rw [hgd]
 cases c with
 |true=>exact kB (fun F' L' σ' ⟨h1,h2,h3⟩=>by rw [h1,h2,h3];exact hk) (hy rfl)
 |false=>exact hk
theorem UT (c x:Bool):(if c=true then sel c (.d (.bool x)) else (.d (.bool false)))=AV.d (.bool (c&&x)):=by cases c<;>rfl
theorem YE (c x:Bool):(if c=true then (.d (.bool true)) else sel (!c) (.d (.bool x)))=AV.d (.bool (c||x)):=by cases c<;>rfl
end Go.Ab
namespace Go.Ab
theorem oF {P:Program} {K:CP} {F:Fm} {L:Lm} {σ:AN} {d s:Nat} {o:O} {want c:Bool} {r:List Q} (hg:GV want (F s) c)
 (h:∃v,(c=true→BM P (Is d v F L σ) [⟨some d,o,none⟩] F L σ)∧BM P K r (put d (sel c v) F) L σ):BM P K (⟨some d,o,some (s,want)⟩::r) F L σ:=by
 obtain ⟨v,h1,h2⟩:=h
 exact w3 hg h1 h2
end Go.Ab
namespace Go.Ab
theorem Is.pv {d:Nat} {v:AV} {F:Fm} {L:Lm} {σ:AN} {x:Option AV} (h:x=some v):XPv x (some d) (Is d v F L σ) F L σ:=by
 subst h;exact Is.mk
theorem AG.k9 {P:Program} {f:FuncId} {args args':List AV} {d:Option Nat} {K:CP} {F:Fm} {L:Lm} {σ:AN} (e:args=args') (h:AG P f args' d K F L σ):AG P f args d K F L σ:=e ▸ h
end Go.Ab
namespace Go.Ab
theorem V1 (c:Bool) (v:AV):sel c (sel c v)=sel c v:=by cases c<;>rfl
theorem Yy (c x:Bool) (v:AV):sel (c&&x) (sel c v)=sel (c&&x) v:=by cases c<;>cases x<;>rfl
theorem Yz (c x:Bool) (v:AV):sel (c&&x) (sel x v)=sel (c&&x) v:=by cases c<;>cases x<;>rfl
end Go.Ab
namespace Go.Ab
theorem UU (c x:Bool):(if (!c)=true then (.d (.bool true)) else sel c (.d (.bool x)))=AV.d (.bool (!c||x)):=by cases c<;>rfl
end Go.Ab
namespace Go.Ab
open Go.Proofs
variable {P:Program} {cx:Cx} {F:Fm} {Lm0:Lm} {σ σ1:AN} {KX:CP}
theorem AG.upd {d:Option Nat} {f:FuncId} {args:List AV} {v:AV} (h:AT P f args σ (fun v' σ'=>v'=v∧σ'=σ1)) (hk:KX (An d v F) Lm0 σ1) (hn:args.all AV.At=true:=by rfl):AG P f args d KX F Lm0 σ:=
 AG.mk hn h (fun v' σ' ⟨e1,e2⟩=>by subst e1;subst e2;exact hk)
def Wz (L:List Tok):DV:= .sl (L.map Tok.enc)
def psA (L:List Tok) (s:PSt):List AV:=[.d (Wz L),.d (.int .i64 ((L.length - s.r.length:Nat):Int)),.d (.bool s.f),.d (.int .i64 ((s.p:Nat):Int))]
structure POk (L:List Tok) (s:PSt):Prop where
 wf:WF s.r
 suf:s.r <:+L
 len:L.length≤17000
theorem POk.run {α:Type} {L:List Tok} {s:PSt} (h:POk L s) (m:PM α):POk L (m.run s).2:=⟨(m.sf s h.wf).1,(m.sf s h.wf).2.trans h.suf,h.len⟩
theorem PM.le {α:Type} {s:PSt} (m:PM α) (h:WF s.r):(m.run s).2.r.length≤s.r.length:=(m.sf s h).2.length_le
theorem POk.at {L:List Tok} {s:PSt} (h:POk L s):(L.map Tok.enc)[L.length - s.r.length]?=some [.int .i64 s.hd.kind,.str s.hd.text,.int .i64 ((s.hd.pos:Nat):Int)]:=by
 obtain ⟨pre,he⟩:=h.suf
 obtain ⟨r,f,p⟩:=s
 cases r with
 |nil=>exact h.wf.elim
 |cons t l=>
  simp only at he
  subst he
  rw [Av,show (pre++t::l).length - (t::l).length=pre.length by simp,Au (A7 _),Nat.sub_self];rfl
theorem POk.adv {L:List Tok} {s:PSt} (h:POk L s) {t:Str} (ht:t≠[]) (hc:(s.hd.text==t)=true):POk L s.adv:=by
 rw [beq_iff_eq] at hc
 obtain ⟨h1,h2⟩:=RB h.wf (.inr (by rw [hc];exact ht))
 exact ⟨h1,h2.trans h.suf,h.len⟩
theorem POk.fail {L:List Tok} {s:PSt} (h:POk L s):POk L s.fail:=⟨(Tm h.wf).1,(Tm h.wf).2.trans h.suf,h.len⟩
theorem POk.idx {L:List Tok} {s:PSt} (h:POk L s):L.length - s.adv.r.length=(L.length - s.r.length)+1∧L.length - s.r.length≤17000:=by
 have h1:=BP h.wf
 have h2:=h.suf.length_le
 have h3:=h.len
 omega
theorem fT {L:List Tok} {s:PSt} (h:POk L s):psA L s.adv=[.d (Wz L),.d (.int .i64 (((L.length - s.r.length)+1:Nat):Int)),.d (.bool s.f),.d (.int .i64 ((s.p:Nat):Int))]:=by
 unfold psA;rw [h.idx.1];rfl
section
variable {L:List Tok} {i:Nat} {s:PSt}
theorem Oj (hs:POk L s) (σ:AN) (hb:σ.blk i=some (psA L s)):AT Tryz.prog 64 [.gp i 0] σ (fun v σ'=>v= .agg [.d (.int .i64 s.hd.kind),.d (.str s.hd.text),.d (.int .i64 ((s.hd.pos:Nat):Int))]∧σ'=σ):=by
 refine QZ (by simp) ?_
 rw [BO]
 have hat:=hs.at
 unfold psA Wz at hb
 have hix:((L.length - s.r.length:Nat):Int) < ((L.map Tok.enc).length:Int):=by
  have:=(A8.1 hat).1;omega
 (repeat' (first|refine Run.ct rfl ?_|((first|refine Run.reg mixed ?_|refine Run.AM ?_|refine Run.Ag KL (AN.le_refl _) ?_|(refine AQ rfl (fun h=>?_) (fun h=>?_)<;>try (cases h;done)))<;>try simp -implicitDefEqProofs only [hb,hat,go_sem])|(refine ⟨fun h=>?_,fun h=>?_⟩<;>first|(cases h;done)|try simp only [h])|fail))
theorem Cn (hs:POk L s) (t:Str) (σ:AN) (hb:σ.blk i=some (psA L s)) (hc:(s.hd.text==t)=true):AT Tryz.prog 65 [.gp i 0,.d (.str t)] σ (fun v σ'=>v= .d (.bool true)∧σ'=σ.AL i (psA L s.adv)):=by
 refine I9 (by simp) ?_
 rw [BL,fT hs]
 have hpk:=Oj hs σ hb
 have hw:=FR (a:=L.length - s.r.length) (by have:=hs.idx.2;omega)
 unfold psA at hb
 (repeat' (first|refine Run.ct rfl ?_|((first|refine Run.reg mixed ?_|refine Run.AM ?_|refine Run.Ag Fe (AN.le_refl _) ?_|refine AG.det (hpk) ?_|(refine AQ rfl (fun h=>?_) (fun h=>?_)<;>try (cases h;done)))<;>try simp -implicitDefEqProofs only [BV,hc,hb,hw,go_sem])|(refine ⟨fun h=>?_,fun h=>?_⟩<;>first|(cases h;done)|try simp only [h])|fail))
theorem Cm (hs:POk L s) (t:Str) (σ:AN) (hb:σ.blk i=some (psA L s)) (hc:(s.hd.text==t)=false):AT Tryz.prog 65 [.gp i 0,.d (.str t)] σ (fun v σ'=>v= .d (.bool false)∧σ'=σ):=by
 refine I9 (by simp) ?_
 rw [BL]
 have hpk:=Oj hs σ hb
 (repeat' (first|refine Run.ct rfl ?_|((first|refine Run.reg mixed ?_|refine Run.AM ?_|refine Run.Ag Fe (AN.le_refl _) ?_|refine AG.det (hpk) ?_|(refine AQ rfl (fun h=>?_) (fun h=>?_)<;>try (cases h;done)))<;>try simp -implicitDefEqProofs only [BV,hc,go_sem])|(refine ⟨fun h=>?_,fun h=>?_⟩<;>first|(cases h;done)|try simp only [h])|fail))
theorem TP (hs:POk L s) (σ:AN) (hb:σ.blk i=some (psA L s)):AT Tryz.prog 68 [.gp i 0] σ (fun v σ'=>v= .tup []∧σ'=σ.AL i (psA L s.fail)):=by
 refine QX (by simp) ?_
 rw [BO]
 have hpk:=Oj hs σ hb
 have hl:1≤L.length:=Az (Aq.2 hs.wf.ne) hs.suf.length_le
 have hlen:=hs.len
 have hw:IntKind.i64.wrap ((L.length:Int) - 1)=((L.length - 1:Nat):Int):=by rw [BJ (by omega) (by omega)];omega
 have hfl:=Z5 hs.wf
 have hst:psA L s.fail=[.d (Wz L),.d (.int .i64 ((L.length - 1:Nat):Int)),.d (.bool true),.d (.int .i64 (((if s.f then s.p else s.hd.pos):Nat):Int))]:=by
  unfold psA;rw [hfl];rfl
 rw [hst]
 unfold psA Wz at hb
 cases hf:s.f with
 |true=>
  rw [hf] at hb
  (repeat' (first|refine Run.ct rfl ?_|((first|refine Run.reg mixed ?_|refine Run.AM ?_|(refine AQ rfl (fun h=>?_) (fun h=>?_)<;>try (cases h;done)))<;>try simp -implicitDefEqProofs only [hb,hw,AI,go_sem])|(refine ⟨fun h=>?_,fun h=>?_⟩<;>first|(cases h;done)|try simp only [h])|fail))
  exact Run.fin G6 rfl (fun _ _ h=>h) (AN.le_refl _) ⟨rfl,rfl⟩
 |false=>
  rw [hf] at hb
  (repeat' (first|refine Run.ct rfl ?_|((first|refine Run.reg mixed ?_|refine Run.AM ?_|refine AG.det (hpk) ?_|(refine AQ rfl (fun h=>?_) (fun h=>?_)<;>try (cases h;done)))<;>try simp -implicitDefEqProofs only [hb,hw,AI,AO,go_sem])|(refine ⟨fun h=>?_,fun h=>?_⟩<;>first|(cases h;done)|try simp only [h])|fail))
  exact Run.fin G6 rfl (fun _ _ h=>h) (AN.le_refl _) ⟨rfl,rfl⟩
theorem S5 (hs:POk L s) (t:Str) (ht:t≠[]) (σ:AN) (hb:σ.blk i=some (psA L s)):AT Tryz.prog 127 [.gp i 0,.d (.str t)] σ (fun v σ'=>v= .tup []∧σ'=σ.AL i (psA L ((PM.exp t ht).run s).2)):=by
 refine O8 (by simp) ?_
 rw [BL]
 cases hc:(s.hd.text==t) with
 |true=>
  have hr:((PM.exp t ht).run s).2=s.adv:=by
   show (if s.hd.text==t then ((),s.adv) else ((),s.fail)).2=_
   rw [if_pos hc]
  rw [hr]
  (repeat' (first|refine Run.ct rfl ?_|((first|refine Run.reg mixed ?_|refine Run.AM ?_|(refine AG.upd (Cn hs t σ hb hc) ?_)|(refine AQ rfl (fun h=>?_) (fun h=>?_)<;>try (cases h;done)))<;>try simp -implicitDefEqProofs only [go_sem])|(refine ⟨fun h=>?_,fun h=>?_⟩<;>first|(cases h;done)|try simp only [h])|fail))
  exact Run.fin Ff rfl (fun _ _ h=>h) (AN.le_refl _) ⟨rfl,rfl⟩
 |false=>
  have hr:((PM.exp t ht).run s).2=s.fail:=by
   show (if s.hd.text==t then ((),s.adv) else ((),s.fail)).2=_
   rw [if_neg (by rw [hc];decide)]
  rw [hr]
  (repeat' (first|refine Run.ct rfl ?_|((first|refine Run.reg mixed ?_|refine Run.AM ?_|(refine AG.upd (Cm hs t σ hb hc) ?_)|(refine AG.upd (TP hs σ hb) ?_)|(refine AQ rfl (fun h=>?_) (fun h=>?_)<;>try (cases h;done)))<;>try simp -implicitDefEqProofs only [go_sem])|(refine ⟨fun h=>?_,fun h=>?_⟩<;>first|(cases h;done)|try simp only [h])|fail))
  exact Run.fin Ff rfl (fun _ _ h=>h) (AN.le_refl _) ⟨rfl,rfl⟩
theorem rB (hs:POk L s) (k:Int) (hk:k≠6) (σ:AN) (hb:σ.blk i=some (psA L s)):AT Tryz.prog 124 [.gp i 0,.d (.int .i64 k)] σ (fun v σ'=>v= .d (.str ((PM.take k hk).run s).1)∧σ'=σ.AL i (psA L ((PM.take k hk).run s).2)):=by
 refine Q2 (by simp) ?_
 rw [BL]
 have hpk:=Oj hs σ hb
 cases hc:(s.hd.kind==k) with
 |true=>
  have hr:(PM.take k hk).run s=(s.hd.text,s.adv):=if_pos hc
  rw [hr,fT hs]
  have hw:=FR (a:=L.length - s.r.length) (by have:=hs.idx.2;omega)
  have hne:(s.hd.kind != k)=false:=by unfold bne;rw [hc];rfl
  unfold psA at hb
  (repeat' (first|refine Run.ct rfl ?_|((first|refine Run.reg mixed ?_|refine Run.AM ?_|refine Run.Ag G7 (AN.le_refl _) ?_|refine AG.det (hpk) ?_|(refine AQ rfl (fun h=>?_) (fun h=>?_)<;>try (cases h;done)))<;>try simp -implicitDefEqProofs only [hne,hb,hw,go_sem])|(refine ⟨fun h=>?_,fun h=>?_⟩<;>first|(cases h;done)|try simp only [h])|fail))
 |false=>
  have hr:(PM.take k hk).run s=([],s.fail):=if_neg (by simp only;rw [hc];decide)
  have hne:(s.hd.kind != k)=true:=by unfold bne;rw [hc];rfl
  rw [hr]
  (repeat' (first|refine Run.ct rfl ?_|((first|refine Run.reg mixed ?_|refine Run.AM ?_|refine Run.Ag G7 (AN.le_refl _) ?_|(refine AG.upd (TP hs σ hb) ?_)|refine AG.det (hpk) ?_|(refine AQ rfl (fun h=>?_) (fun h=>?_)<;>try (cases h;done)))<;>try simp -implicitDefEqProofs only [hne,go_sem])|(refine ⟨fun h=>?_,fun h=>?_⟩<;>first|(cases h;done)|try simp only [h])|fail))
end
def Va (σ:AN):Prop:=∃te pe,σ.gt Vt=some #[.iface te pe]
def PC {α:Type} (fid:FuncId) (args:List AV) (i:Nat) (L:List Tok) (n:Nat) (m:PM α) (enc:α→AV):Prop:=
 ∀(σ:AN) (s:PSt),Va σ→POk L s→s.r.length≤n→σ.blk i=some (psA L s)→AT Tryz.prog fid args σ (fun v σ'=>v=enc (m.run s).1∧σ'=σ.AL i (psA L (m.run s).2))
theorem PC.mono {α:Type} {fid:FuncId} {args:List AV} {i:Nat} {L:List Tok} {n k:Nat} {m:PM α} {enc:α→AV} (h:PC fid args i L n m enc) (hk:k≤n):PC fid args i L k m enc:=fun σ s hg h1 h2 h3=>h σ s hg h1 (Az h2 hk) h3
theorem ZF (i:Nat) (L:List Tok) (n:Nat) (k:Int) (hk:k≠6):PC 124 [.gp i 0,.d (.int .i64 k)] i L n (PM.take k hk) (fun x=>.d (.str x)):=fun σ s _ h1 _ h3=>rB h1 k hk σ h3
theorem Og (i:Nat) (L:List Tok) (n:Nat):PC 126 [.gp i 0] i L n FP (fun x=>.d (.str x)):=fun σ s hg h1 h2 h3=>by
 refine QY (by simp) ?_
 rw [BO]
 (repeat' (first|refine Run.ct rfl ?_|((first|refine Run.reg mixed ?_|refine Run.AM ?_|refine Run.Ag KJ (AN.le_refl _) ?_|(refine AG.upd (ZF i L n 1 (by decide) σ s hg h1 h2 h3) ?_)|(refine AQ rfl (fun h=>?_) (fun h=>?_)<;>try (cases h;done)))<;>try simp -implicitDefEqProofs only [go_sem])|(refine ⟨fun h=>?_,fun h=>?_⟩<;>first|(cases h;done)|try simp only [h])|fail))
 exact ⟨rfl,rfl⟩
theorem RG (i:Nat) (L:List Tok) (n:Nat):PC 172 [.gp i 0] i L n Fq (fun x=>.d (.str x)):=fun σ s hg h1 h2 h3=>by
 refine QS (by simp) ?_
 rw [BO]
 cases hc:(s.hd.text==[95]) with
 |true=>
  have hr:Fq.run s=([],s.adv):=if_pos hc
  rw [hr]
  (repeat' (first|refine Run.ct rfl ?_|((first|refine Run.reg mixed ?_|refine Run.AM ?_|refine Run.Ag G4 (AN.le_refl _) ?_|(refine AG.upd (Cn h1 _ σ h3 hc) ?_)|(refine AQ rfl (fun h=>?_) (fun h=>?_)<;>try (cases h;done)))<;>try simp -implicitDefEqProofs only [go_sem])|(refine ⟨fun h=>?_,fun h=>?_⟩<;>first|(cases h;done)|try simp only [h])|fail))
 |false=>
  have hr:Fq.run s=FP.run s:=if_neg (by rw [hc];decide)
  rw [hr]
  (repeat' (first|refine Run.ct rfl ?_|((first|refine Run.reg mixed ?_|refine Run.AM ?_|refine Run.Ag G4 (AN.le_refl _) ?_|(refine AG.upd (Cm h1 _ σ h3 hc) ?_)|(refine AG.upd (Og i L n σ s hg h1 h2 h3) ?_)|(refine AQ rfl (fun h=>?_) (fun h=>?_)<;>try (cases h;done)))<;>try simp -implicitDefEqProofs only [go_sem])|(refine ⟨fun h=>?_,fun h=>?_⟩<;>first|(cases h;done)|try simp only [h])|fail))
end Go.Ab
namespace Go.Ab
open Go.Proofs
variable {P:Program}
theorem VZ {σ τ:AN} (h:σ.le τ) {j:Nat} (hj:σ.blk j=none) (cs:List AV):σ.le (τ.AL j cs):=
 ⟨fun i c hi=>by
   have:i≠j:=fun e=>by rw [e,hj] at hi;cases hi
   rw [AO,if_neg this];exact h.blk i c hi,h.tok,h.gt,h.bt⟩
theorem k6 (σ:AN) (i:Nat) (cs:List AV):(σ.De i).le (σ.AL i cs):=⟨fun j c hj=>by
 have:j≠i:=fun e=>by rw [e] at hj;simp [AN.De] at hj
 rw [AO,if_neg this];simpa [AN.De,this] using hj,fun _ h=>h,rfl,fun _ _ h=>h⟩
theorem Lt (σ:AN) (i:Nat):(σ.De i).blk i=none:=by simp [AN.De]
theorem nS {σ τ:AN} {i:Nat} {cs:List AV} (h:(σ.De i).le τ) (hb:τ.blk i=some cs):(σ.AL i cs).le τ:=
 ⟨fun j c hj=>by
   rw [AO] at hj
   split at hj
   · rename_i e;subst e;cases hj;exact hb
   · rename_i e;exact h.blk j c (by simpa [AN.De,e] using hj),h.tok,h.gt,h.bt⟩
theorem kG {σ σ1:AN} {e s:Nat} {v:AV} {rows:List (List DV)} (h:ON σ e s v=some (rows,σ1)):σ1.blk=σ.blk:=by
 unfold ON at h
 split at h
 · cases h;rfl
 · split at h
   · cases h;rfl
   · cases h
 · cases h
theorem Ec.mono {σ σ' τ:AN} {e s:Nat} {rows:List (List DV)} {v:AV} (h:Ec σ e s rows v τ) (hl:σ'.le σ):Ec σ' e s rows v τ:=by
 obtain ⟨σ1,ha,hle⟩:=h.app
 exact ⟨⟨σ1,ha,AN.le_trans hl hle⟩,AN.le_trans hl h.le,h.plain,h.len,h.cell,h.At,h.BQ,h.dv,h.cells⟩
theorem Ec.dH {σ τ:AN} {e s:Nat} {rows:List (List DV)} {v:AV} (h:Ec σ e s rows v τ) {j:Nat} (hj:σ.blk j=none) (cs:List AV):Ec σ e s rows v (τ.AL j cs):=by
 obtain ⟨σ1,ha,hle⟩:=h.app
 refine ⟨?_,VZ h.le hj cs,h.plain,h.len,h.cell,h.At,h.BQ,h.dv,h.cells⟩
 unfold ON at ha ⊢
 split at ha
 · cases ha
   exact ⟨_,rfl,VZ hle hj cs⟩
 · rename_i t e' s' rows'
   split at ha
   · rename_i hc
     cases ha
     exact ⟨(τ.AL j cs).Eg t,if_pos hc,VZ hle hj cs⟩
   · cases ha
 · cases ha
theorem Ec.put {σ τ:AN} {e s i:Nat} {cs:List AV} {rows:List (List DV)} {v:AV} (h:Ec (σ.De i) e s rows v τ) (hb:τ.blk i=some cs):Ec (σ.AL i cs) e s rows v τ:=by
 obtain ⟨σ1,ha,hle⟩:=h.app
 exact ⟨⟨σ1,ha,nS hle (by rw [kG ha];exact hb)⟩,nS h.le hb,h.plain,h.len,h.cell,h.At,h.BQ,h.dv,h.cells⟩
theorem AT.wL {f:FuncId} {args:List AV} {σ σ1:AN} {e s:Nat} {rows:List (List DV)} (h:AT P f args σ (fun v σ'=>Ec σ1 e s rows v σ')):AT P f args σ (fun v σ'=>v= .d (.sl rows)∧σ'=σ1):=
 fun base g Pr w0 w vs hr hv=>(h base g Pr w0 w vs hr hv).mono fun _ _ ⟨v,_,g',_,a,b,c,d,e,q⟩=>⟨v,.d (.sl rows),g',σ1,a,by have:=b.plain;rwa [q.plain] at this,c.less q.le,d,e,rfl,rfl⟩
structure LS (σ:AN) (i:Nat) (L:List Tok) (s:PSt) (e z:Nat) (rows:List (List DV)) (v:AV) (τ:AN):Prop where
 own:Ec (σ.De i) e z rows v τ
 blk:τ.blk i=some (psA L s)
theorem LS.step {σ τ:AN} {i:Nat} {L:List Tok} {s:PSt} {e z:Nat} {rows:List (List DV)} {v:AV} (h:LS σ i L s e z rows v τ) (s':PSt):LS σ i L s' e z rows v (τ.AL i (psA L s')):=
 ⟨h.own.dH (Lt σ i) _,by rw [AO,if_pos rfl]⟩
theorem LS.fin {σ τ:AN} {i:Nat} {L:List Tok} {s:PSt} {e z:Nat} {rows:List (List DV)} {v:AV} (h:LS σ i L s e z rows v τ):Ec (σ.AL i (psA L s)) e z rows v τ:=h.own.put h.blk
theorem LS.le {σ τ:AN} {i:Nat} {L:List Tok} {s:PSt} {e z:Nat} {rows:List (List DV)} {v:AV} (h:LS σ i L s e z rows v τ):(σ.AL i (psA L s)).le τ:=h.fin.le
theorem LS.of {σ τ:AN} {i:Nat} {L:List Tok} {s:PSt} {e z:Nat} {rows:List (List DV)} {v:AV} (h:Ec (σ.AL i (psA L s)) e z rows v τ):LS σ i L s e z rows v τ:=
 ⟨h.mono (k6 σ i _),h.le.blk i _ (by rw [AO,if_pos rfl])⟩
theorem LS.lit {σ:AN} {i:Nat} {L:List Tok} {s:PSt} {e z t:Nat} {rows:List (List DV)} (ht:σ.tok t=false):LS σ i L s e z rows (.own t e z rows) ((σ.AL i (psA L s)).DJ t):=
 ⟨Ec.own (k6 σ i _) (σ':=σ) ⟨fun j c hj=>by
   have:j≠i:=fun e=>by rw [e] at hj;simp [AN.De] at hj
   simpa [AN.De,this] using hj,fun _ h=>h,rfl,fun _ _ h=>h⟩ ht,by rw [F8,AO,if_pos rfl]⟩
theorem LS.gt {σ τ:AN} {i:Nat} {L:List Tok} {s:PSt} {e z:Nat} {rows:List (List DV)} {v:AV} (h:LS σ i L s e z rows v τ) (hg:Va σ):Va τ:=by
 obtain ⟨te,pe,he⟩:=hg
 refine ⟨te,pe,?_⟩
 rw [← h.own.le.gt];exact he
theorem LS.pV {σ:AN} {i:Nat} {L:List Tok} {s:PSt} {e z t:Nat} {rows:List (List DV)} (ht:(σ.AL i (psA L s)).tok t=false):LS σ i L s e z rows (.own t e z rows) ((σ.AL i (psA L s)).DJ t):=LS.lit (σ:=σ) ht
theorem LS.pW {σ:AN} {i:Nat} {L:List Tok} {s:PSt} {e z t:Nat} {rows:List (List DV)} (ht:(σ.AL i (psA L s)).tok t=false) (s':PSt):LS σ i L s' e z rows (.own t e z rows) (((σ.AL i (psA L s)).DJ t).AL i (psA L s')):=(LS.pV ht).step s'
theorem LS.tok {σ τ:AN} {i:Nat} {L:List Tok} {s:PSt} {e z:Nat} {rows:List (List DV)} {v:AV} (h:LS σ i L s e z rows v τ) {F:Fm} {Lm0:Lm} {K:CP} {d:Option Nat} {bytes:Nat} {x:AV} {srows:List (List DV)} (h2:x.rows=some srows) (h3:∀r∈srows,r.length=z) (h4:rows.length+srows.length≤1000000000) (hb:bytes≤10000)
 (hk:∀v' τ',LS σ i L s e z (rows++srows) v' τ'→K (An d v' F) Lm0 τ'):NT e z bytes v x d K F Lm0 τ:=
 NT.own h.own h2 h3 h4 hb (fun v' τ' ho hbk=>hk v' τ' ⟨ho,by rw [hbk];exact h.blk⟩)
def PCo {α:Type} (fid:FuncId) (args:List AV) (i:Nat) (L:List Tok) (n:Nat) (m:PM (List α)) (e z:Nat) (enc:α→List DV):Prop:=
 ∀(σ:AN) (s:PSt),Va σ→POk L s→s.r.length≤n→σ.blk i=some (psA L s)→AT Tryz.prog fid args σ (fun v σ'=>Ec (σ.AL i (psA L (m.run s).2)) e z ((m.run s).1.map enc) v σ')
theorem PCo.pc {α:Type} {fid:FuncId} {args:List AV} {i:Nat} {L:List Tok} {n:Nat} {m:PM (List α)} {e z:Nat} {enc:α→List DV} (h:PCo fid args i L n m e z enc):PC fid args i L n m (fun l=>.d (.sl (l.map enc))):=fun σ s hg h1 h2 h3=>(h σ s hg h1 h2 h3).wL
theorem PCo.mono {α:Type} {fid:FuncId} {args:List AV} {i:Nat} {L:List Tok} {n k:Nat} {m:PM (List α)} {e z:Nat} {enc:α→List DV} (h:PCo fid args i L n m e z enc) (hk:k≤n):PCo fid args i L k m e z enc:=fun σ s hg h1 h2 h3=>h σ s hg h1 (Az h2 hk) h3
theorem Nd {α:Type} {read:PM α} {t:Str} {ht:t≠[]} {n:Nat} {l:List α} {s:PSt} (hc:(s.hd.text==t)=true):(EJ read t ht (n+1) l).run s=(EJ read t ht n (l++[(read.run s.adv).1])).run (read.run s.adv).2:=if_pos hc
theorem Nc {α:Type} {read:PM α} {t:Str} {ht:t≠[]} {n:Nat} {l:List α} {s:PSt} (hc:(s.hd.text==t)=false):(EJ read t ht (n+1) l).run s=(l,s):=if_neg (by rw [hc];decide)
theorem WK {α:Type} {read:PM α} {t:Str} {ht:t≠[]}:∀(n:Nat) (l:List α) (s:PSt),WF s.r→((EJ read t ht n l).run s).1.length+((EJ read t ht n l).run s).2.r.length≤l.length+s.r.length
 |0,l,s,_=>A7 _
 |n+1,l,s,hw=>by
  cases hc:s.hd.text==t with
  |false=>rw [Nc hc];exact A7 _
  |true=>
   rw [Nd hc]
   have hk:s.hd.text≠[]:=by rw [beq_iff_eq] at hc;rw [hc];exact ht
   have hw1:=(RB hw (.inr hk)).1
   have h1:=read.le hw1
   have h2:=BP hw
   have h3:=WK (read:=read) (t:=t) (ht:=ht) n (l++[(read.run s.adv).1]) (read.run s.adv).2 (read.sf _ hw1).1
   simp only [AA,AD,AF] at h3
   omega
theorem iI {α:Type} {read:PM α} {t:Str} {ht:t≠[]} {s:PSt} (hw:WF s.r):((items read t ht).run s).1.length≤1+s.r.length:=by
 have h1:=read.le hw
 have h3:=WK (read:=read) (t:=t) (ht:=ht) BC [(read.run s).1] (read.run s).2 (read.sf _ hw).1
 simp only [AD,AF] at h3
 show ((EJ read t ht BC [(read.run s).1]).run (read.run s).2).1.length≤_
 omega
theorem Oe {α:Type} {read:PM α} {s:PSt} (hw:WF s.r):((listed read).run s).1.length≤1+s.r.length:=iI (read:=read) (t:=[44]) (ht:=by decide) hw
theorem S4 {α:Type} {read:PM α} {s:PSt} (hw:WF s.r):((closed read).run s).1.length≤1+s.r.length:=by
 cases hc:s.hd.text==[41] with
 |true=>
  have:(closed read).run s=([],s.adv):=if_pos hc
  rw [this];simp
 |false=>
  have:(closed read).run s=(listed read).run s:=if_neg (by rw [hc];decide)
  rw [this];exact Oe hw
end Go.Ab
namespace Go.Ab
open Go.Proofs
theorem VG (i:Nat) (L:List Tok) (n:Nat) {read:PM Str} {fr:FuncId} (hb:Am Tryz.prog fr=true) (hr:PC fr [.gp i 0] i L n read (fun x:Str=>.d (.str x))) (t:Str) (ht:t≠[]):
 PCo 182 [.gp i 0,.d (.str t),.fn fr [.gp i 0] []] i L n (items read t ht) 9 1 FB:=by
 intro σ s hg h1 h2 h3
 refine P0 (by simp) ?_
 rw [II]
 have hc:=hr σ s hg h1 h2 h3
 have h1':=h1.run read
 have hle:=read.le h1.wf
 have hit:(items read t ht).run s=(EJ read t ht BC [(read.run s).1]).run (read.run s).2:=rfl
 rw [hit]
 clear hit
 generalize read.run s=y at hc h1' hle ⊢
 obtain ⟨x,s1⟩:=y
 simp only at hc h1' hle ⊢
 skip
 (repeat' (first|refine Run.ct rfl ?_|((first|refine Run.reg mixed ?_|refine Run.AM ?_|(refine ⟨fr,[.gp i 0],[],rfl,hb,AG.upd hc ?_ (by simp [Ic])⟩)|(refine Hh.own rfl (by decide) (fun tk htk=>?_))|(refine AQ rfl (fun h=>?_) (fun h=>?_)<;>try (cases h;done)))<;>try simp -implicitDefEqProofs only [go_sem])|(refine ⟨fun h=>?_,fun h=>?_⟩<;>first|(cases h;done)|try simp only [h])|fail))
 refine Run.Co ?_
 have hf0:=FI
 have hl0:=h1.suf.length_le
 have hl1:=h1.len
 refine Run.Cp ((fun (a0:AV) (a1:AV) (a2:AV)=>fun (y:PSt×List Str×Nat×AV×AN)=>put 0 a0 (put 1 a1 (put 2 a2 (put 7 (y.2.2.2.1) U)))) _ _ _) (fun _=>E) (fun y=>y.2.2.2.2) (fun y=>POk L y.1∧y.1.r.length≤n∧y.1.r.length≤y.2.2.1∧y.2.1.length+y.1.r.length≤17001∧LS σ i L y.1 9 1 (y.2.1.map FB) y.2.2.2.1 y.2.2.2.2∧(EJ read t ht y.2.2.1 y.2.1).run y.1=(EJ read t ht BC [x]).run s1) (fun y=>y.1.r.length) ?_ (s1,[x],BC,.own tk 9 1 _,_) ⟨h1',by simp only;omega,by simp only;omega,by simp only [AD,AF];omega,?_,rfl⟩
 rotate_left
 · simp only [AE,AH,FB]
   exact LS.lit htk
 rintro ⟨s2,l,q,v,τ⟩ ⟨g1,g2,g3,g4,g5,g6⟩ ih
 simp only at g1 g2 g3 g4 g5 g6
 obtain ⟨q,rfl⟩:∃m,q=m+1:=⟨q - 1,by have:=Aq.2 g1.wf.ne;omega⟩
 cases hcc:(s2.hd.text==t) with
 |false=>
  rw [Nc hcc] at g6
  rw [← g6]
  (repeat' (first|refine Run.ct rfl ?_|((first|refine Run.reg mixed ?_|refine Run.AM ?_|(refine AG.upd (Cm g1 t τ g5.blk hcc) ?_)|(refine Run.Ih JN (AN.le_refl _) ?_)|(refine AQ rfl (fun h=>?_) (fun h=>?_)<;>try (cases h;done)))<;>try simp -implicitDefEqProofs only [g5.own.BQ,g5.own.At,if_true,go_sem])|(refine ⟨fun h=>?_,fun h=>?_⟩<;>first|(cases h;done)|try simp only [h])|fail))
  exact g5.fin
 |true=>
  rw [Nd hcc] at g6
  have g1a:=g1.adv ht hcc
  have hal:=BP g1.wf
  have hc:=hr (τ.AL i (psA L s2.adv)) s2.adv (g5.gt hg) g1a (by omega) (by rw [AO,if_pos rfl]:(τ.AL i (psA L s2.adv)).blk i=_)
  rw [A1] at hc
  have h1':=g1a.run read
  have hle:=read.le g1a.wf
  have hst:=g5.step (read.run s2.adv).2
  generalize read.run s2.adv=y at hc h1' hle g6 hst
  obtain ⟨x,s3⟩:=y
  simp only at hc h1' hle g6 hst
  skip
  (repeat' (first|refine Run.ct rfl ?_|((first|refine Run.reg mixed ?_|refine Run.AM ?_|(refine AG.upd (Cn g1 t τ g5.blk hcc) ?_)|(refine ⟨fr,[.gp i 0],[],rfl,hb,AG.upd hc ?_ (by simp [Ic])⟩)|(refine hst.tok rfl (by simp) (by simp;omega) (by decide) (fun v2 τ2 ho=>?_))|(refine AQ rfl (fun h=>?_) (fun h=>?_)<;>try (cases h;done)))<;>try simp -implicitDefEqProofs only [g5.own.BQ,go_sem])|(refine ⟨fun h=>?_,fun h=>?_⟩<;>first|(cases h;done)|try simp only [h])|fail))
  refine ih (s3,l++[x],q,v2,τ2) ⟨h1',by simp only;omega,by simp only;omega,by simp only [AA,AD,AF];omega,?_,g6⟩ (by simp only;omega)
  simp only [B1,AE,AH,FB]
  exact ho
theorem P9 (i:Nat) (L:List Tok) (n:Nat) {read:PM TE} {fr:FuncId} (hb:Am Tryz.prog fr=true) (hr:PC fr [.gp i 0] i L n read teA) (t:Str) (ht:t≠[]):
 PCo 196 [.gp i 0,.d (.str t),.fn fr [.gp i 0] []] i L n (items read t ht) 75 3 TE.enc:=by
 intro σ s hg h1 h2 h3
 refine LZ (by simp) ?_
 rw [II]
 have hc:=hr σ s hg h1 h2 h3
 have h1':=h1.run read
 have hle:=read.le h1.wf
 have hit:(items read t ht).run s=(EJ read t ht BC [(read.run s).1]).run (read.run s).2:=rfl
 rw [hit]
 clear hit
 generalize read.run s=y at hc h1' hle ⊢
 obtain ⟨x,s1⟩:=y
 simp only at hc h1' hle ⊢
 obtain ⟨k0,n0,l0⟩:=x
 simp only [teA,TE.A3,AE,AH] at hc
 (repeat' (first|refine Run.ct rfl ?_|((first|refine Run.reg mixed ?_|refine Run.AM ?_|(refine ⟨fr,[.gp i 0],[],rfl,hb,AG.upd hc ?_ (by simp [Ic])⟩)|(refine Hh.own rfl (by decide) (fun tk htk=>?_))|(refine AQ rfl (fun h=>?_) (fun h=>?_)<;>try (cases h;done)))<;>try simp -implicitDefEqProofs only [go_sem])|(refine ⟨fun h=>?_,fun h=>?_⟩<;>first|(cases h;done)|try simp only [h])|fail))
 refine Run.Co ?_
 have hf0:=FI
 have hl0:=h1.suf.length_le
 have hl1:=h1.len
 refine Run.Cp ((fun (a0:AV) (a1:AV) (a2:AV)=>fun (y:PSt×List TE×Nat×AV×AN)=>put 0 a0 (put 1 a1 (put 2 a2 (put 7 (y.2.2.2.1) U)))) _ _ _) (fun _=>E) (fun y=>y.2.2.2.2) (fun y=>POk L y.1∧y.1.r.length≤n∧y.1.r.length≤y.2.2.1∧y.2.1.length+y.1.r.length≤17001∧LS σ i L y.1 75 3 (y.2.1.map TE.enc) y.2.2.2.1 y.2.2.2.2∧(EJ read t ht y.2.2.1 y.2.1).run y.1=(EJ read t ht BC [(TE.mk k0 n0 l0)]).run s1) (fun y=>y.1.r.length) ?_ (s1,[(TE.mk k0 n0 l0)],BC,.own tk 75 3 _,_) ⟨h1',by simp only;omega,by simp only;omega,by simp only [AD,AF];omega,?_,rfl⟩
 rotate_left
 · simp only [AE,AH,TE.A3]
   exact LS.lit htk
 rintro ⟨s2,l,q,v,τ⟩ ⟨g1,g2,g3,g4,g5,g6⟩ ih
 simp only at g1 g2 g3 g4 g5 g6
 obtain ⟨q,rfl⟩:∃m,q=m+1:=⟨q - 1,by have:=Aq.2 g1.wf.ne;omega⟩
 cases hcc:(s2.hd.text==t) with
 |false=>
  rw [Nc hcc] at g6
  rw [← g6]
  (repeat' (first|refine Run.ct rfl ?_|((first|refine Run.reg mixed ?_|refine Run.AM ?_|(refine AG.upd (Cm g1 t τ g5.blk hcc) ?_)|(refine Run.Ih GJ (AN.le_refl _) ?_)|(refine AQ rfl (fun h=>?_) (fun h=>?_)<;>try (cases h;done)))<;>try simp -implicitDefEqProofs only [g5.own.BQ,g5.own.At,if_true,go_sem])|(refine ⟨fun h=>?_,fun h=>?_⟩<;>first|(cases h;done)|try simp only [h])|fail))
  exact g5.fin
 |true=>
  rw [Nd hcc] at g6
  have g1a:=g1.adv ht hcc
  have hal:=BP g1.wf
  have hc:=hr (τ.AL i (psA L s2.adv)) s2.adv (g5.gt hg) g1a (by omega) (by rw [AO,if_pos rfl]:(τ.AL i (psA L s2.adv)).blk i=_)
  rw [A1] at hc
  have h1':=g1a.run read
  have hle:=read.le g1a.wf
  have hst:=g5.step (read.run s2.adv).2
  generalize read.run s2.adv=y at hc h1' hle g6 hst
  obtain ⟨x,s3⟩:=y
  simp only at hc h1' hle g6 hst
  obtain ⟨k0,n0,l0⟩:=x
  simp only [teA,TE.A3,AE,AH] at hc
  (repeat' (first|refine Run.ct rfl ?_|((first|refine Run.reg mixed ?_|refine Run.AM ?_|(refine AG.upd (Cn g1 t τ g5.blk hcc) ?_)|(refine ⟨fr,[.gp i 0],[],rfl,hb,AG.upd hc ?_ (by simp [Ic])⟩)|(refine hst.tok rfl (by simp) (by simp;omega) (by decide) (fun v2 τ2 ho=>?_))|(refine AQ rfl (fun h=>?_) (fun h=>?_)<;>try (cases h;done)))<;>try simp -implicitDefEqProofs only [g5.own.BQ,go_sem])|(refine ⟨fun h=>?_,fun h=>?_⟩<;>first|(cases h;done)|try simp only [h])|fail))
  refine ih (s3,l++[(TE.mk k0 n0 l0)],q,v2,τ2) ⟨h1',by simp only;omega,by simp only;omega,by simp only [AA,AD,AF];omega,?_,g6⟩ (by simp only;omega)
  simp only [B1,AE,AH,TE.A3]
  exact ho
theorem Q8 (i:Nat) (L:List Tok) (n:Nat) {read:PM CE} {fr:FuncId} (hb:Am Tryz.prog fr=true) (hr:PC fr [.gp i 0] i L n read ceA) (t:Str) (ht:t≠[]):
 PCo 128 [.gp i 0,.d (.str t),.fn fr [.gp i 0] []] i L n (items read t ht) 72 2 CE.enc:=by
 intro σ s hg h1 h2 h3
 refine MC (by simp) ?_
 rw [II]
 have hc:=hr σ s hg h1 h2 h3
 have h1':=h1.run read
 have hle:=read.le h1.wf
 have hit:(items read t ht).run s=(EJ read t ht BC [(read.run s).1]).run (read.run s).2:=rfl
 rw [hit]
 clear hit
 generalize read.run s=y at hc h1' hle ⊢
 obtain ⟨x,s1⟩:=y
 simp only at hc h1' hle ⊢
 obtain ⟨n0,l0⟩:=x
 simp only [ceA,CE.enc,AE,AH] at hc
 (repeat' (first|refine Run.ct rfl ?_|((first|refine Run.reg mixed ?_|refine Run.AM ?_|(refine ⟨fr,[.gp i 0],[],rfl,hb,AG.upd hc ?_ (by simp [Ic])⟩)|(refine Hh.own rfl (by decide) (fun tk htk=>?_))|(refine AQ rfl (fun h=>?_) (fun h=>?_)<;>try (cases h;done)))<;>try simp -implicitDefEqProofs only [go_sem])|(refine ⟨fun h=>?_,fun h=>?_⟩<;>first|(cases h;done)|try simp only [h])|fail))
 refine Run.Co ?_
 have hf0:=FI
 have hl0:=h1.suf.length_le
 have hl1:=h1.len
 refine Run.Cp ((fun (a0:AV) (a1:AV) (a2:AV)=>fun (y:PSt×List CE×Nat×AV×AN)=>put 0 a0 (put 1 a1 (put 2 a2 (put 7 (y.2.2.2.1) U)))) _ _ _) (fun _=>E) (fun y=>y.2.2.2.2) (fun y=>POk L y.1∧y.1.r.length≤n∧y.1.r.length≤y.2.2.1∧y.2.1.length+y.1.r.length≤17001∧LS σ i L y.1 72 2 (y.2.1.map CE.enc) y.2.2.2.1 y.2.2.2.2∧(EJ read t ht y.2.2.1 y.2.1).run y.1=(EJ read t ht BC [(CE.mk n0 l0)]).run s1) (fun y=>y.1.r.length) ?_ (s1,[(CE.mk n0 l0)],BC,.own tk 72 2 _,_) ⟨h1',by simp only;omega,by simp only;omega,by simp only [AD,AF];omega,?_,rfl⟩
 rotate_left
 · simp only [AE,AH,CE.enc]
   exact LS.lit htk
 rintro ⟨s2,l,q,v,τ⟩ ⟨g1,g2,g3,g4,g5,g6⟩ ih
 simp only at g1 g2 g3 g4 g5 g6
 obtain ⟨q,rfl⟩:∃m,q=m+1:=⟨q - 1,by have:=Aq.2 g1.wf.ne;omega⟩
 cases hcc:(s2.hd.text==t) with
 |false=>
  rw [Nc hcc] at g6
  rw [← g6]
  (repeat' (first|refine Run.ct rfl ?_|((first|refine Run.reg mixed ?_|refine Run.AM ?_|(refine AG.upd (Cm g1 t τ g5.blk hcc) ?_)|(refine Run.Ih G2 (AN.le_refl _) ?_)|(refine AQ rfl (fun h=>?_) (fun h=>?_)<;>try (cases h;done)))<;>try simp -implicitDefEqProofs only [g5.own.BQ,g5.own.At,if_true,go_sem])|(refine ⟨fun h=>?_,fun h=>?_⟩<;>first|(cases h;done)|try simp only [h])|fail))
  exact g5.fin
 |true=>
  rw [Nd hcc] at g6
  have g1a:=g1.adv ht hcc
  have hal:=BP g1.wf
  have hc:=hr (τ.AL i (psA L s2.adv)) s2.adv (g5.gt hg) g1a (by omega) (by rw [AO,if_pos rfl]:(τ.AL i (psA L s2.adv)).blk i=_)
  rw [A1] at hc
  have h1':=g1a.run read
  have hle:=read.le g1a.wf
  have hst:=g5.step (read.run s2.adv).2
  generalize read.run s2.adv=y at hc h1' hle g6 hst
  obtain ⟨x,s3⟩:=y
  simp only at hc h1' hle g6 hst
  obtain ⟨n0,l0⟩:=x
  simp only [ceA,CE.enc,AE,AH] at hc
  (repeat' (first|refine Run.ct rfl ?_|((first|refine Run.reg mixed ?_|refine Run.AM ?_|(refine AG.upd (Cn g1 t τ g5.blk hcc) ?_)|(refine ⟨fr,[.gp i 0],[],rfl,hb,AG.upd hc ?_ (by simp [Ic])⟩)|(refine hst.tok rfl (by simp) (by simp;omega) (by decide) (fun v2 τ2 ho=>?_))|(refine AQ rfl (fun h=>?_) (fun h=>?_)<;>try (cases h;done)))<;>try simp -implicitDefEqProofs only [g5.own.BQ,go_sem])|(refine ⟨fun h=>?_,fun h=>?_⟩<;>first|(cases h;done)|try simp only [h])|fail))
  refine ih (s3,l++[(CE.mk n0 l0)],q,v2,τ2) ⟨h1',by simp only;omega,by simp only;omega,by simp only [AA,AD,AF];omega,?_,g6⟩ (by simp only;omega)
  simp only [B1,AE,AH,CE.enc]
  exact ho
theorem TV (i:Nat) (L:List Tok) (n:Nat) {read:PM Ex} {fr:FuncId} (hb:Am Tryz.prog fr=true) (hr:PC fr [.gp i 0] i L n read exA) (t:Str) (ht:t≠[]):
 PCo 216 [.gp i 0,.d (.str t),.fn fr [.gp i 0] []] i L n (items read t ht) 44 6 Ex.enc:=by
 intro σ s hg h1 h2 h3
 refine N6 (by simp) ?_
 rw [II]
 have hc:=hr σ s hg h1 h2 h3
 have h1':=h1.run read
 have hle:=read.le h1.wf
 have hit:(items read t ht).run s=(EJ read t ht BC [(read.run s).1]).run (read.run s).2:=rfl
 rw [hit]
 clear hit
 generalize read.run s=y at hc h1' hle ⊢
 obtain ⟨x,s1⟩:=y
 simp only at hc h1' hle ⊢
 obtain ⟨o0,n0,u0,ns0,ks0,al0⟩:=x
 simp only [exA,Ex.A3,AE,AH] at hc
 (repeat' (first|refine Run.ct rfl ?_|((first|refine Run.reg mixed ?_|refine Run.AM ?_|(refine ⟨fr,[.gp i 0],[],rfl,hb,AG.upd hc ?_ (by simp [Ic])⟩)|(refine Hh.own rfl (by decide) (fun tk htk=>?_))|(refine AQ rfl (fun h=>?_) (fun h=>?_)<;>try (cases h;done)))<;>try simp -implicitDefEqProofs only [go_sem])|(refine ⟨fun h=>?_,fun h=>?_⟩<;>first|(cases h;done)|try simp only [h])|fail))
 refine Run.Co ?_
 have hf0:=FI
 have hl0:=h1.suf.length_le
 have hl1:=h1.len
 refine Run.Cp ((fun (a0:AV) (a1:AV) (a2:AV)=>fun (y:PSt×List Ex×Nat×AV×AN)=>put 0 a0 (put 1 a1 (put 2 a2 (put 7 (y.2.2.2.1) U)))) _ _ _) (fun _=>E) (fun y=>y.2.2.2.2) (fun y=>POk L y.1∧y.1.r.length≤n∧y.1.r.length≤y.2.2.1∧y.2.1.length+y.1.r.length≤17001∧LS σ i L y.1 44 6 (y.2.1.map Ex.enc) y.2.2.2.1 y.2.2.2.2∧(EJ read t ht y.2.2.1 y.2.1).run y.1=(EJ read t ht BC [(Ex.mk o0 n0 u0 ns0 ks0 al0)]).run s1) (fun y=>y.1.r.length) ?_ (s1,[(Ex.mk o0 n0 u0 ns0 ks0 al0)],BC,.own tk 44 6 _,_) ⟨h1',by simp only;omega,by simp only;omega,by simp only [AD,AF];omega,?_,rfl⟩
 rotate_left
 · simp only [AE,AH,Ex.A3]
   exact LS.lit htk
 rintro ⟨s2,l,q,v,τ⟩ ⟨g1,g2,g3,g4,g5,g6⟩ ih
 simp only at g1 g2 g3 g4 g5 g6
 obtain ⟨q,rfl⟩:∃m,q=m+1:=⟨q - 1,by have:=Aq.2 g1.wf.ne;omega⟩
 cases hcc:(s2.hd.text==t) with
 |false=>
  rw [Nc hcc] at g6
  rw [← g6]
  (repeat' (first|refine Run.ct rfl ?_|((first|refine Run.reg mixed ?_|refine Run.AM ?_|(refine AG.upd (Cm g1 t τ g5.blk hcc) ?_)|(refine Run.Ih Hp (AN.le_refl _) ?_)|(refine AQ rfl (fun h=>?_) (fun h=>?_)<;>try (cases h;done)))<;>try simp -implicitDefEqProofs only [g5.own.BQ,g5.own.At,if_true,go_sem])|(refine ⟨fun h=>?_,fun h=>?_⟩<;>first|(cases h;done)|try simp only [h])|fail))
  exact g5.fin
 |true=>
  rw [Nd hcc] at g6
  have g1a:=g1.adv ht hcc
  have hal:=BP g1.wf
  have hc:=hr (τ.AL i (psA L s2.adv)) s2.adv (g5.gt hg) g1a (by omega) (by rw [AO,if_pos rfl]:(τ.AL i (psA L s2.adv)).blk i=_)
  rw [A1] at hc
  have h1':=g1a.run read
  have hle:=read.le g1a.wf
  have hst:=g5.step (read.run s2.adv).2
  generalize read.run s2.adv=y at hc h1' hle g6 hst
  obtain ⟨x,s3⟩:=y
  simp only at hc h1' hle g6 hst
  obtain ⟨o0,n0,u0,ns0,ks0,al0⟩:=x
  simp only [exA,Ex.A3,AE,AH] at hc
  (repeat' (first|refine Run.ct rfl ?_|((first|refine Run.reg mixed ?_|refine Run.AM ?_|(refine AG.upd (Cn g1 t τ g5.blk hcc) ?_)|(refine ⟨fr,[.gp i 0],[],rfl,hb,AG.upd hc ?_ (by simp [Ic])⟩)|(refine hst.tok rfl (by simp) (by simp;omega) (by decide) (fun v2 τ2 ho=>?_))|(refine AQ rfl (fun h=>?_) (fun h=>?_)<;>try (cases h;done)))<;>try simp -implicitDefEqProofs only [g5.own.BQ,go_sem])|(refine ⟨fun h=>?_,fun h=>?_⟩<;>first|(cases h;done)|try simp only [h])|fail))
  refine ih (s3,l++[(Ex.mk o0 n0 u0 ns0 ks0 al0)],q,v2,τ2) ⟨h1',by simp only;omega,by simp only;omega,by simp only [AA,AD,AF];omega,?_,g6⟩ (by simp only;omega)
  simp only [B1,AE,AH,Ex.A3]
  exact ho
theorem UJ (i:Nat) (L:List Tok) (n:Nat) {read:PM Al} {fr:FuncId} (hb:Am Tryz.prog fr=true) (hr:PC fr [.gp i 0] i L n read alA) (t:Str) (ht:t≠[]):
 PCo 170 [.gp i 0,.d (.str t),.fn fr [.gp i 0] []] i L n (items read t ht) 112 8 Al.enc:=by
 intro σ s hg h1 h2 h3
 refine O3 (by simp) ?_
 rw [II]
 have hc:=hr σ s hg h1 h2 h3
 have h1':=h1.run read
 have hle:=read.le h1.wf
 have hit:(items read t ht).run s=(EJ read t ht BC [(read.run s).1]).run (read.run s).2:=rfl
 rw [hit]
 clear hit
 generalize read.run s=y at hc h1' hle ⊢
 obtain ⟨x,s1⟩:=y
 simp only at hc h1' hle ⊢
 obtain ⟨c0,vs0,⟨o0,n0,u0,ns0,ks0,al0⟩⟩:=x
 simp only [alA,Al.A3,AE,AH] at hc
 (repeat' (first|refine Run.ct rfl ?_|((first|refine Run.reg mixed ?_|refine Run.AM ?_|(refine ⟨fr,[.gp i 0],[],rfl,hb,AG.upd hc ?_ (by simp [Ic])⟩)|(refine Hh.own rfl (by decide) (fun tk htk=>?_))|(refine AQ rfl (fun h=>?_) (fun h=>?_)<;>try (cases h;done)))<;>try simp -implicitDefEqProofs only [go_sem])|(refine ⟨fun h=>?_,fun h=>?_⟩<;>first|(cases h;done)|try simp only [h])|fail))
 refine Run.Co ?_
 have hf0:=FI
 have hl0:=h1.suf.length_le
 have hl1:=h1.len
 refine Run.Cp ((fun (a0:AV) (a1:AV) (a2:AV)=>fun (y:PSt×List Al×Nat×AV×AN)=>put 0 a0 (put 1 a1 (put 2 a2 (put 7 (y.2.2.2.1) U)))) _ _ _) (fun _=>E) (fun y=>y.2.2.2.2) (fun y=>POk L y.1∧y.1.r.length≤n∧y.1.r.length≤y.2.2.1∧y.2.1.length+y.1.r.length≤17001∧LS σ i L y.1 112 8 (y.2.1.map Al.enc) y.2.2.2.1 y.2.2.2.2∧(EJ read t ht y.2.2.1 y.2.1).run y.1=(EJ read t ht BC [(Al.mk c0 vs0 (.mk o0 n0 u0 ns0 ks0 al0))]).run s1) (fun y=>y.1.r.length) ?_ (s1,[(Al.mk c0 vs0 (.mk o0 n0 u0 ns0 ks0 al0))],BC,.own tk 112 8 _,_) ⟨h1',by simp only;omega,by simp only;omega,by simp only [AD,AF];omega,?_,rfl⟩
 rotate_left
 · simp only [AE,AH,Al.A3]
   exact LS.lit htk
 rintro ⟨s2,l,q,v,τ⟩ ⟨g1,g2,g3,g4,g5,g6⟩ ih
 simp only at g1 g2 g3 g4 g5 g6
 obtain ⟨q,rfl⟩:∃m,q=m+1:=⟨q - 1,by have:=Aq.2 g1.wf.ne;omega⟩
 cases hcc:(s2.hd.text==t) with
 |false=>
  rw [Nc hcc] at g6
  rw [← g6]
  (repeat' (first|refine Run.ct rfl ?_|((first|refine Run.reg mixed ?_|refine Run.AM ?_|(refine AG.upd (Cm g1 t τ g5.blk hcc) ?_)|(refine Run.Ih I2 (AN.le_refl _) ?_)|(refine AQ rfl (fun h=>?_) (fun h=>?_)<;>try (cases h;done)))<;>try simp -implicitDefEqProofs only [g5.own.BQ,g5.own.At,if_true,go_sem])|(refine ⟨fun h=>?_,fun h=>?_⟩<;>first|(cases h;done)|try simp only [h])|fail))
  exact g5.fin
 |true=>
  rw [Nd hcc] at g6
  have g1a:=g1.adv ht hcc
  have hal:=BP g1.wf
  have hc:=hr (τ.AL i (psA L s2.adv)) s2.adv (g5.gt hg) g1a (by omega) (by rw [AO,if_pos rfl]:(τ.AL i (psA L s2.adv)).blk i=_)
  rw [A1] at hc
  have h1':=g1a.run read
  have hle:=read.le g1a.wf
  have hst:=g5.step (read.run s2.adv).2
  generalize read.run s2.adv=y at hc h1' hle g6 hst
  obtain ⟨x,s3⟩:=y
  simp only at hc h1' hle g6 hst
  obtain ⟨c0,vs0,⟨o0,n0,u0,ns0,ks0,al0⟩⟩:=x
  simp only [alA,Al.A3,AE,AH] at hc
  (repeat' (first|refine Run.ct rfl ?_|((first|refine Run.reg mixed ?_|refine Run.AM ?_|(refine AG.upd (Cn g1 t τ g5.blk hcc) ?_)|(refine ⟨fr,[.gp i 0],[],rfl,hb,AG.upd hc ?_ (by simp [Ic])⟩)|(refine hst.tok rfl (by simp) (by simp;omega) (by decide) (fun v2 τ2 ho=>?_))|(refine AQ rfl (fun h=>?_) (fun h=>?_)<;>try (cases h;done)))<;>try simp -implicitDefEqProofs only [g5.own.BQ,go_sem])|(refine ⟨fun h=>?_,fun h=>?_⟩<;>first|(cases h;done)|try simp only [h])|fail))
  refine ih (s3,l++[(Al.mk c0 vs0 (.mk o0 n0 u0 ns0 ks0 al0))],q,v2,τ2) ⟨h1',by simp only;omega,by simp only;omega,by simp only [AA,AD,AF];omega,?_,g6⟩ (by simp only;omega)
  simp only [B1,AE,AH,Al.A3]
  exact ho
theorem Gm (i:Nat) (L:List Tok) (n:Nat) {read:PM Str} {fr:FuncId} (hb:Am Tryz.prog fr=true) (hr:PC fr [.gp i 0] i L n read (fun x:Str=>.d (.str x))):
 PCo 166 [.gp i 0,.fn fr [.gp i 0] []] i L n (listed read) 9 1 FB:=by
 intro σ s hg h1 h2 h3
 refine O4 (by simp) ?_
 rw [BL]
 have hc:=VG i L n hb hr [44] (by decide) σ s hg h1 h2 h3
 have hr2:(listed read).run s=(((items read [44] (by decide)).run s).1,((PM.exp [41] (by decide)).run ((items read [44] (by decide)).run s).2).2):=rfl
 rw [hr2]
 (repeat' (first|refine Run.ct rfl ?_|((first|refine Run.reg mixed ?_|refine Run.AM ?_|(refine AG.mk rfl hc ?_;intro v σ1 ho;have hl:=LS.of ho)|(refine AQ rfl (fun h=>?_) (fun h=>?_)<;>try (cases h;done)))<;>try simp -implicitDefEqProofs only [go_sem])|(refine ⟨fun h=>?_,fun h=>?_⟩<;>first|(cases h;done)|try simp only [h])|fail))
 (repeat' (first|refine Run.ct rfl ?_|((first|refine Run.reg mixed ?_|refine Run.AM ?_|(refine AG.upd (S5 (h1.run _) [41] (by decide) σ1 hl.blk) ?_)|(refine Run.Ih I3 (AN.le_refl _) ?_)|(refine AQ rfl (fun h=>?_) (fun h=>?_)<;>try (cases h;done)))<;>try simp -implicitDefEqProofs only [ho.BQ,ho.At,if_true,go_sem])|(refine ⟨fun h=>?_,fun h=>?_⟩<;>first|(cases h;done)|try simp only [h])|fail))
 exact (hl.step _).fin
theorem N0 (i:Nat) (L:List Tok) (n:Nat) {read:PM Str} {fr:FuncId} (hb:Am Tryz.prog fr=true) (hr:PC fr [.gp i 0] i L n read (fun x:Str=>.d (.str x))):
 PCo 130 [.gp i 0,.fn fr [.gp i 0] []] i L n (closed read) 9 1 FB:=by
 intro σ s hg h1 h2 h3
 refine O2 (by simp) ?_
 rw [BL]
 cases hcc:(s.hd.text==[41]) with
 |true=>
  have hr2:(closed read).run s=([],s.adv):=if_pos hcc
  rw [hr2]
  (repeat' (first|refine Run.ct rfl ?_|((first|refine Run.reg mixed ?_|refine Run.AM ?_|refine Run.Ih Fa (AN.le_refl _) ?_|(refine AG.upd (Cn h1 _ σ h3 hcc) ?_)|(refine AQ rfl (fun h=>?_) (fun h=>?_)<;>try (cases h;done)))<;>try simp -implicitDefEqProofs only [go_sem])|(refine ⟨fun h=>?_,fun h=>?_⟩<;>first|(cases h;done)|try simp only [h])|fail))
  exact Ec.nil _ _ _
 |false=>
  have hr2:(closed read).run s=(listed read).run s:=if_neg (by rw [hcc];decide)
  rw [hr2]
  (repeat' (first|refine Run.ct rfl ?_|((first|refine Run.reg mixed ?_|refine Run.AM ?_|(refine AG.upd (Cm h1 _ σ h3 hcc) ?_)|(refine AG.mk rfl (Gm i L n hb hr σ s hg h1 h2 h3) ?_;intro v σ1 ho)|(refine Run.Ih Fa (AN.le_refl _) ?_)|(refine AQ rfl (fun h=>?_) (fun h=>?_)<;>try (cases h;done)))<;>try simp -implicitDefEqProofs only [go_sem])|(refine ⟨fun h=>?_,fun h=>?_⟩<;>first|(cases h;done)|try simp only [h])|fail))
  rw [if_pos ho.At]
  exact ho
theorem Nk (i:Nat) (L:List Tok) (n:Nat) {read:PM Str} {fr:FuncId} (hb:Am Tryz.prog fr=true) (hr:PC fr [.gp i 0] i L n read (fun x:Str=>.d (.str x))):
 PCo 125 [.gp i 0,.fn fr [.gp i 0] []] i L (n+1) (Hf read) 9 1 FB:=by
 intro σ s hg h1 h2 h3
 refine O7 (by simp) ?_
 rw [BL]
 cases hcc:(s.hd.text==[40]) with
 |true=>
  have hr2:(Hf read).run s=(listed read).run s.adv:=if_pos hcc
  rw [hr2]
  have hal:=BP h1.wf
  have hc:=Gm i L n hb hr (σ.AL i (psA L s.adv)) s.adv hg (h1.adv (by decide) hcc) (by omega) (by rw [AO,if_pos rfl])
  rw [A1] at hc
  (repeat' (first|refine Run.ct rfl ?_|((first|refine Run.reg mixed ?_|refine Run.AM ?_|(refine AG.upd (Cn h1 _ σ h3 hcc) ?_)|(refine AG.mk rfl hc ?_;intro v σ1 ho)|(refine Run.Ih Fc (AN.le_refl _) ?_)|(refine AQ rfl (fun h=>?_) (fun h=>?_)<;>try (cases h;done)))<;>try simp -implicitDefEqProofs only [go_sem])|(refine ⟨fun h=>?_,fun h=>?_⟩<;>first|(cases h;done)|try simp only [h])|fail))
  rw [if_pos ho.At]
  exact ho
 |false=>
  have hr2:(Hf read).run s=([],s):=if_neg (by rw [hcc];decide)
  rw [hr2]
  (repeat' (first|refine Run.ct rfl ?_|((first|refine Run.reg mixed ?_|refine Run.AM ?_|refine Run.Ih Fc (AN.le_refl _) ?_|(refine AG.upd (Cm h1 _ σ h3 hcc) ?_)|(refine AQ rfl (fun h=>?_) (fun h=>?_)<;>try (cases h;done)))<;>try simp -implicitDefEqProofs only [go_sem])|(refine ⟨fun h=>?_,fun h=>?_⟩<;>first|(cases h;done)|try simp only [h])|fail))
  have:=Ec.nil (σ.AL i (psA L s)) 9 1
  rwa [Qu h3] at this ⊢
theorem EX (i:Nat) (L:List Tok) (n:Nat) {read:PM TE} {fr:FuncId} (hb:Am Tryz.prog fr=true) (hr:PC fr [.gp i 0] i L n read teA):
 PCo 183 [.gp i 0,.fn fr [.gp i 0] []] i L n (listed read) 75 3 TE.enc:=by
 intro σ s hg h1 h2 h3
 refine Kk (by simp) ?_
 rw [BL]
 have hc:=P9 i L n hb hr [44] (by decide) σ s hg h1 h2 h3
 have hr2:(listed read).run s=(((items read [44] (by decide)).run s).1,((PM.exp [41] (by decide)).run ((items read [44] (by decide)).run s).2).2):=rfl
 rw [hr2]
 (repeat' (first|refine Run.ct rfl ?_|((first|refine Run.reg mixed ?_|refine Run.AM ?_|(refine AG.mk rfl hc ?_;intro v σ1 ho;have hl:=LS.of ho)|(refine AQ rfl (fun h=>?_) (fun h=>?_)<;>try (cases h;done)))<;>try simp -implicitDefEqProofs only [go_sem])|(refine ⟨fun h=>?_,fun h=>?_⟩<;>first|(cases h;done)|try simp only [h])|fail))
 (repeat' (first|refine Run.ct rfl ?_|((first|refine Run.reg mixed ?_|refine Run.AM ?_|(refine AG.upd (S5 (h1.run _) [41] (by decide) σ1 hl.blk) ?_)|(refine Run.Ih Fp (AN.le_refl _) ?_)|(refine AQ rfl (fun h=>?_) (fun h=>?_)<;>try (cases h;done)))<;>try simp -implicitDefEqProofs only [ho.BQ,ho.At,if_true,go_sem])|(refine ⟨fun h=>?_,fun h=>?_⟩<;>first|(cases h;done)|try simp only [h])|fail))
 exact (hl.step _).fin
theorem OS (i:Nat) (L:List Tok) (n:Nat) {read:PM TE} {fr:FuncId} (hb:Am Tryz.prog fr=true) (hr:PC fr [.gp i 0] i L n read teA):
 PCo 185 [.gp i 0,.fn fr [.gp i 0] []] i L n (closed read) 75 3 TE.enc:=by
 intro σ s hg h1 h2 h3
 refine Kj (by simp) ?_
 rw [BL]
 cases hcc:(s.hd.text==[41]) with
 |true=>
  have hr2:(closed read).run s=([],s.adv):=if_pos hcc
  rw [hr2]
  (repeat' (first|refine Run.ct rfl ?_|((first|refine Run.reg mixed ?_|refine Run.AM ?_|refine Run.Ih EH (AN.le_refl _) ?_|(refine AG.upd (Cn h1 _ σ h3 hcc) ?_)|(refine AQ rfl (fun h=>?_) (fun h=>?_)<;>try (cases h;done)))<;>try simp -implicitDefEqProofs only [go_sem])|(refine ⟨fun h=>?_,fun h=>?_⟩<;>first|(cases h;done)|try simp only [h])|fail))
  exact Ec.nil _ _ _
 |false=>
  have hr2:(closed read).run s=(listed read).run s:=if_neg (by rw [hcc];decide)
  rw [hr2]
  (repeat' (first|refine Run.ct rfl ?_|((first|refine Run.reg mixed ?_|refine Run.AM ?_|(refine AG.upd (Cm h1 _ σ h3 hcc) ?_)|(refine AG.mk rfl (EX i L n hb hr σ s hg h1 h2 h3) ?_;intro v σ1 ho)|(refine Run.Ih EH (AN.le_refl _) ?_)|(refine AQ rfl (fun h=>?_) (fun h=>?_)<;>try (cases h;done)))<;>try simp -implicitDefEqProofs only [go_sem])|(refine ⟨fun h=>?_,fun h=>?_⟩<;>first|(cases h;done)|try simp only [h])|fail))
  rw [if_pos ho.At]
  exact ho
theorem Ie (i:Nat) (L:List Tok) (n:Nat) {read:PM TE} {fr:FuncId} (hb:Am Tryz.prog fr=true) (hr:PC fr [.gp i 0] i L n read teA):
 PCo 167 [.gp i 0,.fn fr [.gp i 0] []] i L (n+1) (Hf read) 75 3 TE.enc:=by
 intro σ s hg h1 h2 h3
 refine Kl (by simp) ?_
 rw [BL]
 cases hcc:(s.hd.text==[40]) with
 |true=>
  have hr2:(Hf read).run s=(listed read).run s.adv:=if_pos hcc
  rw [hr2]
  have hal:=BP h1.wf
  have hc:=EX i L n hb hr (σ.AL i (psA L s.adv)) s.adv hg (h1.adv (by decide) hcc) (by omega) (by rw [AO,if_pos rfl])
  rw [A1] at hc
  (repeat' (first|refine Run.ct rfl ?_|((first|refine Run.reg mixed ?_|refine Run.AM ?_|(refine AG.upd (Cn h1 _ σ h3 hcc) ?_)|(refine AG.mk rfl hc ?_;intro v σ1 ho)|(refine Run.Ih EI (AN.le_refl _) ?_)|(refine AQ rfl (fun h=>?_) (fun h=>?_)<;>try (cases h;done)))<;>try simp -implicitDefEqProofs only [go_sem])|(refine ⟨fun h=>?_,fun h=>?_⟩<;>first|(cases h;done)|try simp only [h])|fail))
  rw [if_pos ho.At]
  exact ho
 |false=>
  have hr2:(Hf read).run s=([],s):=if_neg (by rw [hcc];decide)
  rw [hr2]
  (repeat' (first|refine Run.ct rfl ?_|((first|refine Run.reg mixed ?_|refine Run.AM ?_|refine Run.Ih EI (AN.le_refl _) ?_|(refine AG.upd (Cm h1 _ σ h3 hcc) ?_)|(refine AQ rfl (fun h=>?_) (fun h=>?_)<;>try (cases h;done)))<;>try simp -implicitDefEqProofs only [go_sem])|(refine ⟨fun h=>?_,fun h=>?_⟩<;>first|(cases h;done)|try simp only [h])|fail))
  have:=Ec.nil (σ.AL i (psA L s)) 75 3
  rwa [Qu h3] at this ⊢
theorem Fg (i:Nat) (L:List Tok) (n:Nat) {read:PM Ex} {fr:FuncId} (hb:Am Tryz.prog fr=true) (hr:PC fr [.gp i 0] i L n read exA):
 PCo 214 [.gp i 0,.fn fr [.gp i 0] []] i L n (listed read) 44 6 Ex.enc:=by
 intro σ s hg h1 h2 h3
 refine My (by simp) ?_
 rw [BL]
 have hc:=TV i L n hb hr [44] (by decide) σ s hg h1 h2 h3
 have hr2:(listed read).run s=(((items read [44] (by decide)).run s).1,((PM.exp [41] (by decide)).run ((items read [44] (by decide)).run s).2).2):=rfl
 rw [hr2]
 (repeat' (first|refine Run.ct rfl ?_|((first|refine Run.reg mixed ?_|refine Run.AM ?_|(refine AG.mk rfl hc ?_;intro v σ1 ho;have hl:=LS.of ho)|(refine AQ rfl (fun h=>?_) (fun h=>?_)<;>try (cases h;done)))<;>try simp -implicitDefEqProofs only [go_sem])|(refine ⟨fun h=>?_,fun h=>?_⟩<;>first|(cases h;done)|try simp only [h])|fail))
 (repeat' (first|refine Run.ct rfl ?_|((first|refine Run.reg mixed ?_|refine Run.AM ?_|(refine AG.upd (S5 (h1.run _) [41] (by decide) σ1 hl.blk) ?_)|(refine Run.Ih HS (AN.le_refl _) ?_)|(refine AQ rfl (fun h=>?_) (fun h=>?_)<;>try (cases h;done)))<;>try simp -implicitDefEqProofs only [ho.BQ,ho.At,if_true,go_sem])|(refine ⟨fun h=>?_,fun h=>?_⟩<;>first|(cases h;done)|try simp only [h])|fail))
 exact (hl.step _).fin
theorem S3 (i:Nat) (L:List Tok) (n:Nat) {read:PM Ex} {fr:FuncId} (hb:Am Tryz.prog fr=true) (hr:PC fr [.gp i 0] i L n read exA):
 PCo 208 [.gp i 0,.fn fr [.gp i 0] []] i L n (closed read) 44 6 Ex.enc:=by
 intro σ s hg h1 h2 h3
 refine Mx (by simp) ?_
 rw [BL]
 cases hcc:(s.hd.text==[41]) with
 |true=>
  have hr2:(closed read).run s=([],s.adv):=if_pos hcc
  rw [hr2]
  (repeat' (first|refine Run.ct rfl ?_|((first|refine Run.reg mixed ?_|refine Run.AM ?_|refine Run.Ih Er (AN.le_refl _) ?_|(refine AG.upd (Cn h1 _ σ h3 hcc) ?_)|(refine AQ rfl (fun h=>?_) (fun h=>?_)<;>try (cases h;done)))<;>try simp -implicitDefEqProofs only [go_sem])|(refine ⟨fun h=>?_,fun h=>?_⟩<;>first|(cases h;done)|try simp only [h])|fail))
  exact Ec.nil _ _ _
 |false=>
  have hr2:(closed read).run s=(listed read).run s:=if_neg (by rw [hcc];decide)
  rw [hr2]
  (repeat' (first|refine Run.ct rfl ?_|((first|refine Run.reg mixed ?_|refine Run.AM ?_|(refine AG.upd (Cm h1 _ σ h3 hcc) ?_)|(refine AG.mk rfl (Fg i L n hb hr σ s hg h1 h2 h3) ?_;intro v σ1 ho)|(refine Run.Ih Er (AN.le_refl _) ?_)|(refine AQ rfl (fun h=>?_) (fun h=>?_)<;>try (cases h;done)))<;>try simp -implicitDefEqProofs only [go_sem])|(refine ⟨fun h=>?_,fun h=>?_⟩<;>first|(cases h;done)|try simp only [h])|fail))
  rw [if_pos ho.At]
  exact ho
theorem Sg (i:Nat) (L:List Tok) (n:Nat) {read:PM Ex} {fr:FuncId} (hb:Am Tryz.prog fr=true) (hr:PC fr [.gp i 0] i L n read exA):
 PCo 210 [.gp i 0,.fn fr [.gp i 0] []] i L (n+1) (Hf read) 44 6 Ex.enc:=by
 intro σ s hg h1 h2 h3
 refine Mz (by simp) ?_
 rw [BL]
 cases hcc:(s.hd.text==[40]) with
 |true=>
  have hr2:(Hf read).run s=(listed read).run s.adv:=if_pos hcc
  rw [hr2]
  have hal:=BP h1.wf
  have hc:=Fg i L n hb hr (σ.AL i (psA L s.adv)) s.adv hg (h1.adv (by decide) hcc) (by omega) (by rw [AO,if_pos rfl])
  rw [A1] at hc
  (repeat' (first|refine Run.ct rfl ?_|((first|refine Run.reg mixed ?_|refine Run.AM ?_|(refine AG.upd (Cn h1 _ σ h3 hcc) ?_)|(refine AG.mk rfl hc ?_;intro v σ1 ho)|(refine Run.Ih Es (AN.le_refl _) ?_)|(refine AQ rfl (fun h=>?_) (fun h=>?_)<;>try (cases h;done)))<;>try simp -implicitDefEqProofs only [go_sem])|(refine ⟨fun h=>?_,fun h=>?_⟩<;>first|(cases h;done)|try simp only [h])|fail))
  rw [if_pos ho.At]
  exact ho
 |false=>
  have hr2:(Hf read).run s=([],s):=if_neg (by rw [hcc];decide)
  rw [hr2]
  (repeat' (first|refine Run.ct rfl ?_|((first|refine Run.reg mixed ?_|refine Run.AM ?_|refine Run.Ih Es (AN.le_refl _) ?_|(refine AG.upd (Cm h1 _ σ h3 hcc) ?_)|(refine AQ rfl (fun h=>?_) (fun h=>?_)<;>try (cases h;done)))<;>try simp -implicitDefEqProofs only [go_sem])|(refine ⟨fun h=>?_,fun h=>?_⟩<;>first|(cases h;done)|try simp only [h])|fail))
  have:=Ec.nil (σ.AL i (psA L s)) 44 6
  rwa [Qu h3] at this ⊢
end Go.Ab
