/- Data types of package api as plain data. Guarded operations that change nothing, run whatever the guard is. The parser's state in memory; its steps over single tokens. Lists that the parser builds: rows that it owns. Lists of the parser: items, listed, closed, option. Conditions: none. -/
import Derived.Test.YtifplkldbbcldaaGreatDoorXRa
set_option linter.unusedSimpArgs false
set_option linter.unusedVariables false
set_option maxRecDepth 4000
set_option maxHeartbeats 8000000
open Bool renaming eq_iff_iff→Di
open List renaming getElem?_map→Aw,getElem?_append_right→Au,getElem?_eq_some_iff→A8,length_pos_iff→An,length_map→AE,length_append→AA,length_cons→AD,length_nil→AG,map_cons→AF,map_nil→AI,map_append→BU
open Nat renaming le_refl→A7,le_trans→Ay
namespace Go.Ab
structure Con where
 name:List UInt8
 args:List Ty
structure Dat where
 name:List UInt8
 vars:Int
 cons:List Con
def Con.enc (c:Con):List DV:=[.str c.name,.sl (Ty.NU c.args)]
def Dat.enc (d:Dat):List DV:=[.str d.name,.int .i64 d.vars,.sl (d.cons.map Con.enc)]
theorem UL {a:Nat} (h:a≤9000000000000000000):IntKind.i64.wrap (((a+1:Nat):Int) - 1)=(a:Int):=by
 rw [Ax (by omega) (by omega)];omega
theorem Run.uH {cx:Cx} {KK:AV→AN→Prop} {k:List CI} {F:Fm} {L:Lm} {σ σ':AN} (e:σ'=σ) (h:Run cx KK k F L σ'):Run cx KK k F L σ:=e ▸ h
theorem Run.zA {cx:Cx} {KK:AV→AN→Prop} {k:List CI} {c:C} {F:Fm} {L:Lm} {σ:AN} {α:Type} (ks:List Nat) (Fs:α→Fm) (Ls:Lm) (σs:AN) (I:α→Prop) (h2:∀a,I a→Run cx KK k (Fs a) Ls σs)
 (h1:(∀(F':Fm) (L':Lm) (a:α),V2 ks F'=Fs a→Rr ks L'=Ls→I a→Run cx KK k F' L' σs)→Run cx KK (.code c::k) F L σ):Run cx KK (.code c::k) F L σ:=
 h1 fun F' L' a hF hL hI=>Run.Ok ks (by rw [hF,hL];exact h2 a hI)
theorem x8 {σ:AN} {i:Nat} {z:List AV} {x:Nat×TypeId} (h:σ.blk i=none∧σ.bt i=none):σ.le ((σ.AM i z).Gi i x)∧((σ.AM i z).Gi i x).blk i=some z:=
 ⟨⟨fun j cs hj=>by
    have hne:j≠i:=fun e=>by rw [e,h.1] at hj;cases hj
    simp [AN.Gi,AN.AM,hne,hj],fun _ h=>h,rfl,fun j y hj=>by
    have hne:j≠i:=fun e=>by rw [e,h.2] at hj;cases hj
    simp [AN.Gi,AN.AM,hne,hj]⟩,by simp [AN.Gi,AN.AM]⟩
theorem qR {σ σ1:AN} {i:Nat} {cs:List AV} (h:σ.le σ1) (hn:σ.blk i=none):σ.le (σ1.AM i cs):=
 ⟨fun j ds hj=>by
   have hne:j≠i:=fun e=>by rw [e,hn] at hj;cases hj
   rw [AO,if_neg hne];exact h.blk j ds hj,h.tok,h.gt,h.bt⟩
theorem FP (a b:List UInt8):Z1 .eql a b=some (.d (.bool (a==b))):=rfl
theorem BO (a b:List UInt8):Z1 .neq a b=some (.d (.bool (!(a==b)))):=rfl
theorem gtN (n k:Nat):decide ((k:Int) < (n:Int))=!decide (n≤k):=by
 rw [Di];simp
theorem leN (n k:Nat):decide ((n:Int)≤(k:Int))=decide (n≤k):=decide_eq_decide.2 (by omega)
theorem ltN (n k:Nat):decide ((n:Int) < (k:Int))=decide (n < k):=decide_eq_decide.2 (by omega)
theorem Cb {a b:Int} (h:a≠b):(a==b)=false:=by simpa using h
end Go.Ab
namespace Go.Ab
open Go.RowKit
variable {P:Program} {K:C5} {F:Fm} {L:Lm} {σ:AN}
def sel (c:Bool) (v:AV):AV:=if c then v else .tup []
theorem Y2 (v:AV):sel true v=v:=rfl
def GV (want:Bool) (x:AV) (c:Bool):Prop:=gdV want x=some c
theorem GV.t {b:Bool}:GV true (.d (.bool b)) b:=by cases b<;>rfl
theorem GV.f {b:Bool}:GV false (.d (.bool b)) (!b):=by cases b<;>rfl
theorem GV.st {b c:Bool}:GV true (sel c (.d (.bool b))) (c&&b):=by cases b<;>cases c<;>rfl
theorem GV.sf {b c:Bool}:GV false (sel c (.d (.bool b))) (c&& !b):=by cases b<;>cases c<;>rfl
def Is (d:Nat) (v:AV) (F:Fm) (L:Lm) (σ:AN):C5:=fun F' L' σ'=>F'=put d v F∧L'=L∧σ'=σ
theorem Is.mk {d:Nat} {v:AV}:Is d v F L σ (put d v F) L σ:=⟨rfl,rfl,rfl⟩
theorem ABJ {d s:Nat} {o:O} {want c:Bool} {v:AV} {r:List Q} (hg:GV want (F s) c)
 (hy:c=true→BK P (Is d v F L σ) [⟨some d,o,none⟩] F L σ)
 (hk:BK P K r (put d (sel c v) F) L σ):BK P K (⟨some d,o,some (s,want)⟩::r) F L σ:=by
 show XG (gd F (some (s,want))) (XO P (some d) (BK P K r) F L σ o) (BK P K r (Ap (some d) (.tup []) F) L σ)
 have hgd:gd F (some (s,want))=some c:=hg
 rw [hgd]
 cases c with
 |true=>exact fR (fun F' L' σ' ⟨h1,h2,h3⟩=>by rw [h1,h2,h3];exact hk) (hy rfl)
 |false=>exact hk
theorem L8 (c x:Bool):(if c=true then sel c (.d (.bool x)) else (.d (.bool false)))=AV.d (.bool (c&&x)):=by cases c<;>rfl
theorem Q0 (c x:Bool):(if c=true then (.d (.bool true)) else sel (!c) (.d (.bool x)))=AV.d (.bool (c||x)):=by cases c<;>rfl
end Go.Ab
namespace Go.Ab
theorem cO {P:Program} {K:C5} {F:Fm} {L:Lm} {σ:AN} {d s:Nat} {o:O} {want c:Bool} {r:List Q} (hg:GV want (F s) c)
 (h:∃v,(c=true→BK P (Is d v F L σ) [⟨some d,o,none⟩] F L σ)∧BK P K r (put d (sel c v) F) L σ):BK P K (⟨some d,o,some (s,want)⟩::r) F L σ:=by
 obtain ⟨v,h1,h2⟩:=h
 exact ABJ hg h1 h2
end Go.Ab
namespace Go.Ab
theorem Is.pv {d:Nat} {v:AV} {F:Fm} {L:Lm} {σ:AN} {x:Option AV} (h:x=some v):XPv x (some d) (Is d v F L σ) F L σ:=by
 subst h;exact Is.mk
theorem AH.gU {P:Program} {f:FuncId} {args args':List AV} {d:Option Nat} {K:C5} {F:Fm} {L:Lm} {σ:AN} (e:args=args') (h:AH P f args' d K F L σ):AH P f args d K F L σ:=e ▸ h
end Go.Ab
namespace Go.Ab
theorem Nh (c:Bool) (v:AV):sel c (sel c v)=sel c v:=by cases c<;>rfl
theorem SM (c x:Bool) (v:AV):sel (c&&x) (sel c v)=sel (c&&x) v:=by cases c<;>cases x<;>rfl
theorem SN (c x:Bool) (v:AV):sel (c&&x) (sel x v)=sel (c&&x) v:=by cases c<;>cases x<;>rfl
end Go.Ab
namespace Go.Ab
theorem L9 (c x:Bool):(if (!c)=true then (.d (.bool true)) else sel c (.d (.bool x)))=AV.d (.bool (!c||x)):=by cases c<;>rfl
end Go.Ab
namespace Go.Ab
open Go.Proofs
variable {P:Program} {cx:Cx} {F:Fm} {Lm0:Lm} {σ σ1:AN} {KX:C5}
theorem AH.upd {d:Option Nat} {f:FuncId} {args:List AV} {v:AV} (h:AQ P f args σ (fun v' σ'=>v'=v∧σ'=σ1)) (hk:KX (Ap d v F) Lm0 σ1) (hn:args.all AV.At=true:=by rfl):AH P f args d KX F Lm0 σ:=
 AH.mk hn h (fun v' σ' ⟨e1,e2⟩=>by subst e1;subst e2;exact hk)
def Ym (L:List Tok):DV:= .sl (L.map Tok.enc)
def psA (L:List Tok) (s:PSt):List AV:=[.d (Ym L),.d (.int .i64 ((L.length - s.r.length:Nat):Int)),.d (.bool s.f),.d (.int .i64 ((s.p:Nat):Int))]
structure POk (L:List Tok) (s:PSt):Prop where
 wf:WF s.r
 suf:s.r <:+L
 len:L.length≤17000
theorem POk.run {α:Type} {L:List Tok} {s:PSt} (h:POk L s) (m:PM α):POk L (m.run s).2:=⟨(m.sf s h.wf).1,(m.sf s h.wf).2.trans h.suf,h.len⟩
theorem PM.le {α:Type} {s:PSt} (m:PM α) (h:WF s.r):(m.run s).2.r.length≤s.r.length:=(m.sf s h).2.length_le
theorem POk.at {L:List Tok} {s:PSt} (h:POk L s):(L.map Tok.enc)[L.length - s.r.length]?=some [.int .i64 s.hd.kind,.str s.hd.text,.int .i64 ((s.hd.pos:Nat):Int)]:=by
 obtain ⟨pre,he⟩:=h.suf
 obtain ⟨r,f,p⟩:=s
 cases r with
 |nil=>exact h.wf.elim
 |cons t l=>
  simp only at he
  subst he
  rw [Aw,show (pre++t::l).length - (t::l).length=pre.length by simp,Au (A7 _),Nat.sub_self];rfl
theorem POk.adv {L:List Tok} {s:PSt} (h:POk L s) {t:Str} (ht:t≠[]) (hc:(s.hd.text==t)=true):POk L s.adv:=by
 rw [beq_iff_eq] at hc
 obtain ⟨h1,h2⟩:=QM h.wf (.inr (by rw [hc];exact ht))
 exact ⟨h1,h2.trans h.suf,h.len⟩
theorem POk.fail {L:List Tok} {s:PSt} (h:POk L s):POk L s.fail:=⟨(Sf h.wf).1,(Sf h.wf).2.trans h.suf,h.len⟩
theorem POk.idx {L:List Tok} {s:PSt} (h:POk L s):L.length - s.adv.r.length=(L.length - s.r.length)+1∧L.length - s.r.length≤17000:=by
 have h1:=BR h.wf
 have h2:=h.suf.length_le
 have h3:=h.len
 omega
theorem k9 {L:List Tok} {s:PSt} (h:POk L s):psA L s.adv=[.d (Ym L),.d (.int .i64 (((L.length - s.r.length)+1:Nat):Int)),.d (.bool s.f),.d (.int .i64 ((s.p:Nat):Int))]:=by
 unfold psA;rw [h.idx.1];rfl
section
variable {L:List Tok} {i:Nat} {s:PSt}
theorem Pv (hs:POk L s) (σ:AN) (hb:σ.blk i=some (psA L s)):AQ Tryz.prog 64 [.gp i 0] σ (fun v σ'=>v= .agg [.d (.int .i64 s.hd.kind),.d (.str s.hd.text),.d (.int .i64 ((s.hd.pos:Nat):Int))]∧σ'=σ):=by
 refine Rh (by simp) ?_
 rw [BE]
 have hat:=hs.at
 unfold psA Ym at hb
 have hix:((L.length - s.r.length:Nat):Int) < ((L.map Tok.enc).length:Int):=by
  have:=(A8.1 hat).1;omega
 (repeat' (first|refine Run.ct rfl ?_|((first|refine Run.reg mixed ?_|refine Run.AJ ?_|refine Run.A9 Kv (AN.le_refl _) ?_|(refine AR rfl (fun h=>?_) (fun h=>?_)<;>try (cases h;done)))<;>try simp -implicitDefEqProofs only [hb,hat,go_sem])|(refine ⟨fun h=>?_,fun h=>?_⟩<;>first|(cases h;done)|try simp only [h])|fail))
theorem DG (hs:POk L s) (t:Str) (σ:AN) (hb:σ.blk i=some (psA L s)) (hc:(s.hd.text==t)=true):AQ Tryz.prog 65 [.gp i 0,.d (.str t)] σ (fun v σ'=>v= .d (.bool true)∧σ'=σ.AM i (psA L s.adv)):=by
 refine JO (by simp) ?_
 rw [BI,k9 hs]
 have hpk:=Pv hs σ hb
 have hw:=Ba (a:=L.length - s.r.length) (by have:=hs.idx.2;omega)
 unfold psA at hb
 (repeat' (first|refine Run.ct rfl ?_|((first|refine Run.reg mixed ?_|refine Run.AJ ?_|refine Run.A9 GC (AN.le_refl _) ?_|refine AH.det (hpk) ?_|(refine AR rfl (fun h=>?_) (fun h=>?_)<;>try (cases h;done)))<;>try simp -implicitDefEqProofs only [BO,hc,hb,hw,go_sem])|(refine ⟨fun h=>?_,fun h=>?_⟩<;>first|(cases h;done)|try simp only [h])|fail))
theorem DF (hs:POk L s) (t:Str) (σ:AN) (hb:σ.blk i=some (psA L s)) (hc:(s.hd.text==t)=false):AQ Tryz.prog 65 [.gp i 0,.d (.str t)] σ (fun v σ'=>v= .d (.bool false)∧σ'=σ):=by
 refine JO (by simp) ?_
 rw [BI]
 have hpk:=Pv hs σ hb
 (repeat' (first|refine Run.ct rfl ?_|((first|refine Run.reg mixed ?_|refine Run.AJ ?_|refine Run.A9 GC (AN.le_refl _) ?_|refine AH.det (hpk) ?_|(refine AR rfl (fun h=>?_) (fun h=>?_)<;>try (cases h;done)))<;>try simp -implicitDefEqProofs only [BO,hc,go_sem])|(refine ⟨fun h=>?_,fun h=>?_⟩<;>first|(cases h;done)|try simp only [h])|fail))
theorem Ub (hs:POk L s) (σ:AN) (hb:σ.blk i=some (psA L s)):AQ Tryz.prog 68 [.gp i 0] σ (fun v σ'=>v= .tup []∧σ'=σ.AM i (psA L s.fail)):=by
 refine Rf (by simp) ?_
 rw [BE]
 have hpk:=Pv hs σ hb
 have hl:1≤L.length:=Ay (An.2 hs.wf.ne) hs.suf.length_le
 have hlen:=hs.len
 have hw:IntKind.i64.wrap ((L.length:Int) - 1)=((L.length - 1:Nat):Int):=by rw [Ax (by omega) (by omega)];omega
 have hfl:=Xb hs.wf
 have hst:psA L s.fail=[.d (Ym L),.d (.int .i64 ((L.length - 1:Nat):Int)),.d (.bool true),.d (.int .i64 (((if s.f then s.p else s.hd.pos):Nat):Int))]:=by
  unfold psA;rw [hfl];rfl
 rw [hst]
 unfold psA Ym at hb
 cases hf:s.f with
 |true=>
  rw [hf] at hb
  (repeat' (first|refine Run.ct rfl ?_|((first|refine Run.reg mixed ?_|refine Run.AJ ?_|(refine AR rfl (fun h=>?_) (fun h=>?_)<;>try (cases h;done)))<;>try simp -implicitDefEqProofs only [hb,hw,AE,go_sem])|(refine ⟨fun h=>?_,fun h=>?_⟩<;>first|(cases h;done)|try simp only [h])|fail))
  exact Run.fin HF rfl (fun _ _ h=>h) (AN.le_refl _) ⟨rfl,rfl⟩
 |false=>
  rw [hf] at hb
  (repeat' (first|refine Run.ct rfl ?_|((first|refine Run.reg mixed ?_|refine Run.AJ ?_|refine AH.det (hpk) ?_|(refine AR rfl (fun h=>?_) (fun h=>?_)<;>try (cases h;done)))<;>try simp -implicitDefEqProofs only [hb,hw,AE,AO,go_sem])|(refine ⟨fun h=>?_,fun h=>?_⟩<;>first|(cases h;done)|try simp only [h])|fail))
  exact Run.fin HF rfl (fun _ _ h=>h) (AN.le_refl _) ⟨rfl,rfl⟩
theorem Tq (hs:POk L s) (t:Str) (ht:t≠[]) (σ:AN) (hb:σ.blk i=some (psA L s)):AQ Tryz.prog 127 [.gp i 0,.d (.str t)] σ (fun v σ'=>v= .tup []∧σ'=σ.AM i (psA L ((PM.exp t ht).run s).2)):=by
 refine Pj (by simp) ?_
 rw [BI]
 cases hc:(s.hd.text==t) with
 |true=>
  have hr:((PM.exp t ht).run s).2=s.adv:=by
   show (if s.hd.text==t then ((),s.adv) else ((),s.fail)).2=_
   rw [if_pos hc]
  rw [hr]
  (repeat' (first|refine Run.ct rfl ?_|((first|refine Run.reg mixed ?_|refine Run.AJ ?_|(refine AH.upd (DG hs t σ hb hc) ?_)|(refine AR rfl (fun h=>?_) (fun h=>?_)<;>try (cases h;done)))<;>try simp -implicitDefEqProofs only [go_sem])|(refine ⟨fun h=>?_,fun h=>?_⟩<;>first|(cases h;done)|try simp only [h])|fail))
  exact Run.fin GD rfl (fun _ _ h=>h) (AN.le_refl _) ⟨rfl,rfl⟩
 |false=>
  have hr:((PM.exp t ht).run s).2=s.fail:=by
   show (if s.hd.text==t then ((),s.adv) else ((),s.fail)).2=_
   rw [if_neg (by rw [hc];decide)]
  rw [hr]
  (repeat' (first|refine Run.ct rfl ?_|((first|refine Run.reg mixed ?_|refine Run.AJ ?_|(refine AH.upd (DF hs t σ hb hc) ?_)|(refine AH.upd (Ub hs σ hb) ?_)|(refine AR rfl (fun h=>?_) (fun h=>?_)<;>try (cases h;done)))<;>try simp -implicitDefEqProofs only [go_sem])|(refine ⟨fun h=>?_,fun h=>?_⟩<;>first|(cases h;done)|try simp only [h])|fail))
  exact Run.fin GD rfl (fun _ _ h=>h) (AN.le_refl _) ⟨rfl,rfl⟩
theorem wE (hs:POk L s) (k:Int) (hk:k≠6) (σ:AN) (hb:σ.blk i=some (psA L s)):AQ Tryz.prog 124 [.gp i 0,.d (.int .i64 k)] σ (fun v σ'=>v= .d (.str ((PM.take k hk).run s).1)∧σ'=σ.AM i (psA L ((PM.take k hk).run s).2)):=by
 refine Rk (by simp) ?_
 rw [BI]
 have hpk:=Pv hs σ hb
 cases hc:(s.hd.kind==k) with
 |true=>
  have hr:(PM.take k hk).run s=(s.hd.text,s.adv):=if_pos hc
  rw [hr,k9 hs]
  have hw:=Ba (a:=L.length - s.r.length) (by have:=hs.idx.2;omega)
  have hne:(s.hd.kind != k)=false:=by unfold bne;rw [hc];rfl
  unfold psA at hb
  (repeat' (first|refine Run.ct rfl ?_|((first|refine Run.reg mixed ?_|refine Run.AJ ?_|refine Run.A9 HG (AN.le_refl _) ?_|refine AH.det (hpk) ?_|(refine AR rfl (fun h=>?_) (fun h=>?_)<;>try (cases h;done)))<;>try simp -implicitDefEqProofs only [hne,hb,hw,go_sem])|(refine ⟨fun h=>?_,fun h=>?_⟩<;>first|(cases h;done)|try simp only [h])|fail))
 |false=>
  have hr:(PM.take k hk).run s=([],s.fail):=if_neg (by simp only;rw [hc];decide)
  have hne:(s.hd.kind != k)=true:=by unfold bne;rw [hc];rfl
  rw [hr]
  (repeat' (first|refine Run.ct rfl ?_|((first|refine Run.reg mixed ?_|refine Run.AJ ?_|refine Run.A9 HG (AN.le_refl _) ?_|(refine AH.upd (Ub hs σ hb) ?_)|refine AH.det (hpk) ?_|(refine AR rfl (fun h=>?_) (fun h=>?_)<;>try (cases h;done)))<;>try simp -implicitDefEqProofs only [hne,go_sem])|(refine ⟨fun h=>?_,fun h=>?_⟩<;>first|(cases h;done)|try simp only [h])|fail))
end
def WV (σ:AN):Prop:=∃te pe,σ.gt Xa=some #[.iface te pe]
def PC {α:Type} (fid:FuncId) (args:List AV) (i:Nat) (L:List Tok) (n:Nat) (m:PM α) (enc:α→AV):Prop:=
 ∀(σ:AN) (s:PSt),WV σ→POk L s→s.r.length≤n→σ.blk i=some (psA L s)→AQ Tryz.prog fid args σ (fun v σ'=>v=enc (m.run s).1∧σ'=σ.AM i (psA L (m.run s).2))
theorem PC.mono {α:Type} {fid:FuncId} {args:List AV} {i:Nat} {L:List Tok} {n k:Nat} {m:PM α} {enc:α→AV} (h:PC fid args i L n m enc) (hk:k≤n):PC fid args i L k m enc:=fun σ s hg h1 h2 h3=>h σ s hg h1 (Ay h2 hk) h3
theorem cF (i:Nat) (L:List Tok) (n:Nat) (k:Int) (hk:k≠6):PC 124 [.gp i 0,.d (.int .i64 k)] i L n (PM.take k hk) (fun x=>.d (.str x)):=fun σ s _ h1 _ h3=>wE h1 k hk σ h3
theorem Ps (i:Nat) (L:List Tok) (n:Nat):PC 126 [.gp i 0] i L n FB (fun x=>.d (.str x)):=fun σ s hg h1 h2 h3=>by
 refine Rg (by simp) ?_
 rw [BE]
 (repeat' (first|refine Run.ct rfl ?_|((first|refine Run.reg mixed ?_|refine Run.AJ ?_|refine Run.A9 Ku (AN.le_refl _) ?_|(refine AH.upd (cF i L n 1 (by decide) σ s hg h1 h2 h3) ?_)|(refine AR rfl (fun h=>?_) (fun h=>?_)<;>try (cases h;done)))<;>try simp -implicitDefEqProofs only [go_sem])|(refine ⟨fun h=>?_,fun h=>?_⟩<;>first|(cases h;done)|try simp only [h])|fail))
 exact ⟨rfl,rfl⟩
theorem S1 (i:Nat) (L:List Tok) (n:Nat):PC 172 [.gp i 0] i L n GU (fun x=>.d (.str x)):=fun σ s hg h1 h2 h3=>by
 refine Ra (by simp) ?_
 rw [BE]
 cases hc:(s.hd.text==[95]) with
 |true=>
  have hr:GU.run s=([],s.adv):=if_pos hc
  rw [hr]
  (repeat' (first|refine Run.ct rfl ?_|((first|refine Run.reg mixed ?_|refine Run.AJ ?_|refine Run.A9 HC (AN.le_refl _) ?_|(refine AH.upd (DG h1 _ σ h3 hc) ?_)|(refine AR rfl (fun h=>?_) (fun h=>?_)<;>try (cases h;done)))<;>try simp -implicitDefEqProofs only [go_sem])|(refine ⟨fun h=>?_,fun h=>?_⟩<;>first|(cases h;done)|try simp only [h])|fail))
 |false=>
  have hr:GU.run s=FB.run s:=if_neg (by rw [hc];decide)
  rw [hr]
  (repeat' (first|refine Run.ct rfl ?_|((first|refine Run.reg mixed ?_|refine Run.AJ ?_|refine Run.A9 HC (AN.le_refl _) ?_|(refine AH.upd (DF h1 _ σ h3 hc) ?_)|(refine AH.upd (Ps i L n σ s hg h1 h2 h3) ?_)|(refine AR rfl (fun h=>?_) (fun h=>?_)<;>try (cases h;done)))<;>try simp -implicitDefEqProofs only [go_sem])|(refine ⟨fun h=>?_,fun h=>?_⟩<;>first|(cases h;done)|try simp only [h])|fail))
end Go.Ab
namespace Go.Ab
open Go.Proofs
variable {P:Program}
theorem Wv {σ τ:AN} (h:σ.le τ) {j:Nat} (hj:σ.blk j=none) (cs:List AV):σ.le (τ.AM j cs):=
 ⟨fun i c hi=>by
   have:i≠j:=fun e=>by rw [e,hj] at hi;cases hi
   rw [AO,if_neg this];exact h.blk i c hi,h.tok,h.gt,h.bt⟩
theorem pR (σ:AN) (i:Nat) (cs:List AV):(σ.Dw i).le (σ.AM i cs):=⟨fun j c hj=>by
 have:j≠i:=fun e=>by rw [e] at hj;simp [AN.Dw] at hj
 rw [AO,if_neg this];simpa [AN.Dw,this] using hj,fun _ h=>h,rfl,fun _ _ h=>h⟩
theorem Mf (σ:AN) (i:Nat):(σ.Dw i).blk i=none:=by simp [AN.Dw]
theorem sK {σ τ:AN} {i:Nat} {cs:List AV} (h:(σ.Dw i).le τ) (hb:τ.blk i=some cs):(σ.AM i cs).le τ:=
 ⟨fun j c hj=>by
   rw [AO] at hj
   split at hj
   · rename_i e;subst e;cases hj;exact hb
   · rename_i e;exact h.blk j c (by simpa [AN.Dw,e] using hj),h.tok,h.gt,h.bt⟩
theorem oZ {σ σ1:AN} {e s:Nat} {v:AV} {rows:List (List DV)} (h:Np σ e s v=some (rows,σ1)):σ1.blk=σ.blk:=by
 unfold Np at h
 split at h
 · cases h;rfl
 · split at h
   · cases h;rfl
   · cases h
 · cases h
theorem E3.mono {σ σ' τ:AN} {e s:Nat} {rows:List (List DV)} {v:AV} (h:E3 σ e s rows v τ) (hl:σ'.le σ):E3 σ' e s rows v τ:=by
 obtain ⟨σ1,ha,hle⟩:=h.app
 exact ⟨⟨σ1,ha,AN.le_trans hl hle⟩,AN.le_trans hl h.le,h.plain,h.len,h.cell,h.At,h.BT,h.dv,h.cells⟩
theorem E3.jE {σ τ:AN} {e s:Nat} {rows:List (List DV)} {v:AV} (h:E3 σ e s rows v τ) {j:Nat} (hj:σ.blk j=none) (cs:List AV):E3 σ e s rows v (τ.AM j cs):=by
 obtain ⟨σ1,ha,hle⟩:=h.app
 refine ⟨?_,Wv h.le hj cs,h.plain,h.len,h.cell,h.At,h.BT,h.dv,h.cells⟩
 unfold Np at ha ⊢
 split at ha
 · cases ha
   exact ⟨_,rfl,Wv hle hj cs⟩
 · rename_i t e' s' rows'
   split at ha
   · rename_i hc
     cases ha
     exact ⟨(τ.AM j cs).C6 t,if_pos hc,Wv hle hj cs⟩
   · cases ha
 · cases ha
theorem E3.put {σ τ:AN} {e s i:Nat} {cs:List AV} {rows:List (List DV)} {v:AV} (h:E3 (σ.Dw i) e s rows v τ) (hb:τ.blk i=some cs):E3 (σ.AM i cs) e s rows v τ:=by
 obtain ⟨σ1,ha,hle⟩:=h.app
 exact ⟨⟨σ1,ha,sK hle (by rw [oZ ha];exact hb)⟩,sK h.le hb,h.plain,h.len,h.cell,h.At,h.BT,h.dv,h.cells⟩
theorem AQ.AA6 {f:FuncId} {args:List AV} {σ σ1:AN} {e s:Nat} {rows:List (List DV)} (h:AQ P f args σ (fun v σ'=>E3 σ1 e s rows v σ')):AQ P f args σ (fun v σ'=>v= .d (.sl rows)∧σ'=σ1):=
 fun base g Pr w0 w vs hr hv=>(h base g Pr w0 w vs hr hv).mono fun _ _ ⟨v,_,g',_,a,b,c,d,e,q⟩=>⟨v,.d (.sl rows),g',σ1,a,by have:=b.plain;rwa [q.plain] at this,c.less q.le,d,e,rfl,rfl⟩
structure LS (σ:AN) (i:Nat) (L:List Tok) (s:PSt) (e z:Nat) (rows:List (List DV)) (v:AV) (τ:AN):Prop where
 own:E3 (σ.Dw i) e z rows v τ
 blk:τ.blk i=some (psA L s)
theorem LS.step {σ τ:AN} {i:Nat} {L:List Tok} {s:PSt} {e z:Nat} {rows:List (List DV)} {v:AV} (h:LS σ i L s e z rows v τ) (s':PSt):LS σ i L s' e z rows v (τ.AM i (psA L s')):=
 ⟨h.own.jE (Mf σ i) _,by rw [AO,if_pos rfl]⟩
theorem LS.fin {σ τ:AN} {i:Nat} {L:List Tok} {s:PSt} {e z:Nat} {rows:List (List DV)} {v:AV} (h:LS σ i L s e z rows v τ):E3 (σ.AM i (psA L s)) e z rows v τ:=h.own.put h.blk
theorem LS.le {σ τ:AN} {i:Nat} {L:List Tok} {s:PSt} {e z:Nat} {rows:List (List DV)} {v:AV} (h:LS σ i L s e z rows v τ):(σ.AM i (psA L s)).le τ:=h.fin.le
theorem LS.of {σ τ:AN} {i:Nat} {L:List Tok} {s:PSt} {e z:Nat} {rows:List (List DV)} {v:AV} (h:E3 (σ.AM i (psA L s)) e z rows v τ):LS σ i L s e z rows v τ:=
 ⟨h.mono (pR σ i _),h.le.blk i _ (by rw [AO,if_pos rfl])⟩
theorem LS.lit {σ:AN} {i:Nat} {L:List Tok} {s:PSt} {e z t:Nat} {rows:List (List DV)} (ht:σ.tok t=false):LS σ i L s e z rows (.own t e z rows) ((σ.AM i (psA L s)).BW t):=
 ⟨E3.own (pR σ i _) (σ':=σ) ⟨fun j c hj=>by
   have:j≠i:=fun e=>by rw [e] at hj;simp [AN.Dw] at hj
   simpa [AN.Dw,this] using hj,fun _ h=>h,rfl,fun _ _ h=>h⟩ ht,by rw [Fx,AO,if_pos rfl]⟩
theorem LS.gt {σ τ:AN} {i:Nat} {L:List Tok} {s:PSt} {e z:Nat} {rows:List (List DV)} {v:AV} (h:LS σ i L s e z rows v τ) (hg:WV σ):WV τ:=by
 obtain ⟨te,pe,he⟩:=hg
 refine ⟨te,pe,?_⟩
 rw [← h.own.le.gt];exact he
theorem LS.uW {σ:AN} {i:Nat} {L:List Tok} {s:PSt} {e z t:Nat} {rows:List (List DV)} (ht:(σ.AM i (psA L s)).tok t=false):LS σ i L s e z rows (.own t e z rows) ((σ.AM i (psA L s)).BW t):=LS.lit (σ:=σ) ht
theorem LS.uX {σ:AN} {i:Nat} {L:List Tok} {s:PSt} {e z t:Nat} {rows:List (List DV)} (ht:(σ.AM i (psA L s)).tok t=false) (s':PSt):LS σ i L s' e z rows (.own t e z rows) (((σ.AM i (psA L s)).BW t).AM i (psA L s')):=(LS.uW ht).step s'
theorem LS.tok {σ τ:AN} {i:Nat} {L:List Tok} {s:PSt} {e z:Nat} {rows:List (List DV)} {v:AV} (h:LS σ i L s e z rows v τ) {F:Fm} {Lm0:Lm} {K:C5} {d:Option Nat} {bytes:Nat} {x:AV} {srows:List (List DV)} (h2:x.rows=some srows) (h3:∀r∈srows,r.length=z) (h4:rows.length+srows.length≤1000000000) (hb:bytes≤10000)
 (hk:∀v' τ',LS σ i L s e z (rows++srows) v' τ'→K (Ap d v' F) Lm0 τ'):Io e z bytes v x d K F Lm0 τ:=
 Io.own h.own h2 h3 h4 hb (fun v' τ' ho hbk=>hk v' τ' ⟨ho,by rw [hbk];exact h.blk⟩)
def PCo {α:Type} (fid:FuncId) (args:List AV) (i:Nat) (L:List Tok) (n:Nat) (m:PM (List α)) (e z:Nat) (enc:α→List DV):Prop:=
 ∀(σ:AN) (s:PSt),WV σ→POk L s→s.r.length≤n→σ.blk i=some (psA L s)→AQ Tryz.prog fid args σ (fun v σ'=>E3 (σ.AM i (psA L (m.run s).2)) e z ((m.run s).1.map enc) v σ')
theorem PCo.pc {α:Type} {fid:FuncId} {args:List AV} {i:Nat} {L:List Tok} {n:Nat} {m:PM (List α)} {e z:Nat} {enc:α→List DV} (h:PCo fid args i L n m e z enc):PC fid args i L n m (fun l=>.d (.sl (l.map enc))):=fun σ s hg h1 h2 h3=>(h σ s hg h1 h2 h3).AA6
theorem PCo.mono {α:Type} {fid:FuncId} {args:List AV} {i:Nat} {L:List Tok} {n k:Nat} {m:PM (List α)} {e z:Nat} {enc:α→List DV} (h:PCo fid args i L n m e z enc) (hk:k≤n):PCo fid args i L k m e z enc:=fun σ s hg h1 h2 h3=>h σ s hg h1 (Ay h2 hk) h3
theorem Ob {α:Type} {read:PM α} {t:Str} {ht:t≠[]} {n:Nat} {l:List α} {s:PSt} (hc:(s.hd.text==t)=true):(EZ read t ht (n+1) l).run s=(EZ read t ht n (l++[(read.run s.adv).1])).run (read.run s.adv).2:=if_pos hc
theorem Oa {α:Type} {read:PM α} {t:Str} {ht:t≠[]} {n:Nat} {l:List α} {s:PSt} (hc:(s.hd.text==t)=false):(EZ read t ht (n+1) l).run s=(l,s):=if_neg (by rw [hc];decide)
theorem Xv {α:Type} {read:PM α} {t:Str} {ht:t≠[]}:∀(n:Nat) (l:List α) (s:PSt),WF s.r→((EZ read t ht n l).run s).1.length+((EZ read t ht n l).run s).2.r.length≤l.length+s.r.length
 |0,l,s,_=>A7 _
 |n+1,l,s,hw=>by
  cases hc:s.hd.text==t with
  |false=>rw [Oa hc];exact A7 _
  |true=>
   rw [Ob hc]
   have hk:s.hd.text≠[]:=by rw [beq_iff_eq] at hc;rw [hc];exact ht
   have hw1:=(QM hw (.inr hk)).1
   have h1:=read.le hw1
   have h2:=BR hw
   have h3:=Xv (read:=read) (t:=t) (ht:=ht) n (l++[(read.run s.adv).1]) (read.run s.adv).2 (read.sf _ hw1).1
   simp only [AA,AD,AG] at h3
   omega
theorem mZ {α:Type} {read:PM α} {t:Str} {ht:t≠[]} {s:PSt} (hw:WF s.r):((items read t ht).run s).1.length≤1+s.r.length:=by
 have h1:=read.le hw
 have h3:=Xv (read:=read) (t:=t) (ht:=ht) BC [(read.run s).1] (read.run s).2 (read.sf _ hw).1
 simp only [AD,AG] at h3
 show ((EZ read t ht BC [(read.run s).1]).run (read.run s).2).1.length≤_
 omega
theorem Pp {α:Type} {read:PM α} {s:PSt} (hw:WF s.r):((listed read).run s).1.length≤1+s.r.length:=mZ (read:=read) (t:=[44]) (ht:=by decide) hw
theorem Tp {α:Type} {read:PM α} {s:PSt} (hw:WF s.r):((closed read).run s).1.length≤1+s.r.length:=by
 cases hc:s.hd.text==[41] with
 |true=>
  have:(closed read).run s=([],s.adv):=if_pos hc
  rw [this];simp
 |false=>
  have:(closed read).run s=(listed read).run s:=if_neg (by rw [hc];decide)
  rw [this];exact Pp hw
end Go.Ab
namespace Go.Ab
open Go.Proofs
theorem W8 (i:Nat) (L:List Tok) (n:Nat) {read:PM Str} {fr:FuncId} (hb:Ar Tryz.prog fr=true) (hr:PC fr [.gp i 0] i L n read (fun x:Str=>.d (.str x))) (t:Str) (ht:t≠[]):
 PCo 182 [.gp i 0,.d (.str t),.fn fr [.gp i 0] []] i L n (items read t ht) 9 1 D3:=by
 intro σ s hg h1 h2 h3
 refine Qc (by simp) ?_
 rw [H9]
 have hc:=hr σ s hg h1 h2 h3
 have h1':=h1.run read
 have hle:=read.le h1.wf
 have hit:(items read t ht).run s=(EZ read t ht BC [(read.run s).1]).run (read.run s).2:=rfl
 rw [hit]
 clear hit
 generalize read.run s=y at hc h1' hle ⊢
 obtain ⟨x,s1⟩:=y
 simp only at hc h1' hle ⊢
 skip
 (repeat' (first|refine Run.ct rfl ?_|((first|refine Run.reg mixed ?_|refine Run.AJ ?_|(refine ⟨fr,[.gp i 0],[],rfl,hb,AH.upd hc ?_ (by simp [JQ])⟩)|(refine IT.own rfl (by decide) (fun tk htk=>?_))|(refine AR rfl (fun h=>?_) (fun h=>?_)<;>try (cases h;done)))<;>try simp -implicitDefEqProofs only [go_sem])|(refine ⟨fun h=>?_,fun h=>?_⟩<;>first|(cases h;done)|try simp only [h])|fail))
 refine Run.Be ?_
 have hf0:=FL
 have hl0:=h1.suf.length_le
 have hl1:=h1.len
 refine Run.Bn ((fun (a0:AV) (a1:AV) (a2:AV)=>fun (y:PSt×List Str×Nat×AV×AN)=>put 0 a0 (put 1 a1 (put 2 a2 (put 7 (y.2.2.2.1) U)))) _ _ _) (fun _=>E) (fun y=>y.2.2.2.2) (fun y=>POk L y.1∧y.1.r.length≤n∧y.1.r.length≤y.2.2.1∧y.2.1.length+y.1.r.length≤17001∧LS σ i L y.1 9 1 (y.2.1.map D3) y.2.2.2.1 y.2.2.2.2∧(EZ read t ht y.2.2.1 y.2.1).run y.1=(EZ read t ht BC [x]).run s1) (fun y=>y.1.r.length) ?_ (s1,[x],BC,.own tk 9 1 _,_) ⟨h1',by simp only;omega,by simp only;omega,by simp only [AD,AG];omega,?_,rfl⟩
 rotate_left
 · simp only [AF,AI,D3]
   exact LS.lit htk
 rintro ⟨s2,l,q,v,τ⟩ ⟨g1,g2,g3,g4,g5,g6⟩ ih
 simp only at g1 g2 g3 g4 g5 g6
 obtain ⟨q,rfl⟩:∃m,q=m+1:=⟨q - 1,by have:=An.2 g1.wf.ne;omega⟩
 cases hcc:(s2.hd.text==t) with
 |false=>
  rw [Oa hcc] at g6
  rw [← g6]
  (repeat' (first|refine Run.ct rfl ?_|((first|refine Run.reg mixed ?_|refine Run.AJ ?_|(refine AH.upd (DF g1 t τ g5.blk hcc) ?_)|(refine Run.GG Jn (AN.le_refl _) ?_)|(refine AR rfl (fun h=>?_) (fun h=>?_)<;>try (cases h;done)))<;>try simp -implicitDefEqProofs only [g5.own.BT,g5.own.At,if_true,go_sem])|(refine ⟨fun h=>?_,fun h=>?_⟩<;>first|(cases h;done)|try simp only [h])|fail))
  exact g5.fin
 |true=>
  rw [Ob hcc] at g6
  have g1a:=g1.adv ht hcc
  have hal:=BR g1.wf
  have hc:=hr (τ.AM i (psA L s2.adv)) s2.adv (g5.gt hg) g1a (by omega) (by rw [AO,if_pos rfl]:(τ.AM i (psA L s2.adv)).blk i=_)
  rw [A2] at hc
  have h1':=g1a.run read
  have hle:=read.le g1a.wf
  have hst:=g5.step (read.run s2.adv).2
  generalize read.run s2.adv=y at hc h1' hle g6 hst
  obtain ⟨x,s3⟩:=y
  simp only at hc h1' hle g6 hst
  skip
  (repeat' (first|refine Run.ct rfl ?_|((first|refine Run.reg mixed ?_|refine Run.AJ ?_|(refine AH.upd (DG g1 t τ g5.blk hcc) ?_)|(refine ⟨fr,[.gp i 0],[],rfl,hb,AH.upd hc ?_ (by simp [JQ])⟩)|(refine hst.tok rfl (by simp) (by simp;omega) (by decide) (fun v2 τ2 ho=>?_))|(refine AR rfl (fun h=>?_) (fun h=>?_)<;>try (cases h;done)))<;>try simp -implicitDefEqProofs only [g5.own.BT,go_sem])|(refine ⟨fun h=>?_,fun h=>?_⟩<;>first|(cases h;done)|try simp only [h])|fail))
  refine ih (s3,l++[x],q,v2,τ2) ⟨h1',by simp only;omega,by simp only;omega,by simp only [AA,AD,AG];omega,?_,g6⟩ (by simp only;omega)
  simp only [BU,AF,AI,D3]
  exact ho
theorem Ql (i:Nat) (L:List Tok) (n:Nat) {read:PM TE} {fr:FuncId} (hb:Ar Tryz.prog fr=true) (hr:PC fr [.gp i 0] i L n read teA) (t:Str) (ht:t≠[]):
 PCo 196 [.gp i 0,.d (.str t),.fn fr [.gp i 0] []] i L n (items read t ht) 75 3 TE.enc:=by
 intro σ s hg h1 h2 h3
 refine MJ (by simp) ?_
 rw [H9]
 have hc:=hr σ s hg h1 h2 h3
 have h1':=h1.run read
 have hle:=read.le h1.wf
 have hit:(items read t ht).run s=(EZ read t ht BC [(read.run s).1]).run (read.run s).2:=rfl
 rw [hit]
 clear hit
 generalize read.run s=y at hc h1' hle ⊢
 obtain ⟨x,s1⟩:=y
 simp only at hc h1' hle ⊢
 obtain ⟨k0,n0,l0⟩:=x
 simp only [teA,TE.A0,AF,AI] at hc
 (repeat' (first|refine Run.ct rfl ?_|((first|refine Run.reg mixed ?_|refine Run.AJ ?_|(refine ⟨fr,[.gp i 0],[],rfl,hb,AH.upd hc ?_ (by simp [JQ])⟩)|(refine IT.own rfl (by decide) (fun tk htk=>?_))|(refine AR rfl (fun h=>?_) (fun h=>?_)<;>try (cases h;done)))<;>try simp -implicitDefEqProofs only [go_sem])|(refine ⟨fun h=>?_,fun h=>?_⟩<;>first|(cases h;done)|try simp only [h])|fail))
 refine Run.Be ?_
 have hf0:=FL
 have hl0:=h1.suf.length_le
 have hl1:=h1.len
 refine Run.Bn ((fun (a0:AV) (a1:AV) (a2:AV)=>fun (y:PSt×List TE×Nat×AV×AN)=>put 0 a0 (put 1 a1 (put 2 a2 (put 7 (y.2.2.2.1) U)))) _ _ _) (fun _=>E) (fun y=>y.2.2.2.2) (fun y=>POk L y.1∧y.1.r.length≤n∧y.1.r.length≤y.2.2.1∧y.2.1.length+y.1.r.length≤17001∧LS σ i L y.1 75 3 (y.2.1.map TE.enc) y.2.2.2.1 y.2.2.2.2∧(EZ read t ht y.2.2.1 y.2.1).run y.1=(EZ read t ht BC [(TE.mk k0 n0 l0)]).run s1) (fun y=>y.1.r.length) ?_ (s1,[(TE.mk k0 n0 l0)],BC,.own tk 75 3 _,_) ⟨h1',by simp only;omega,by simp only;omega,by simp only [AD,AG];omega,?_,rfl⟩
 rotate_left
 · simp only [AF,AI,TE.A0]
   exact LS.lit htk
 rintro ⟨s2,l,q,v,τ⟩ ⟨g1,g2,g3,g4,g5,g6⟩ ih
 simp only at g1 g2 g3 g4 g5 g6
 obtain ⟨q,rfl⟩:∃m,q=m+1:=⟨q - 1,by have:=An.2 g1.wf.ne;omega⟩
 cases hcc:(s2.hd.text==t) with
 |false=>
  rw [Oa hcc] at g6
  rw [← g6]
  (repeat' (first|refine Run.ct rfl ?_|((first|refine Run.reg mixed ?_|refine Run.AJ ?_|(refine AH.upd (DF g1 t τ g5.blk hcc) ?_)|(refine Run.GG Ge (AN.le_refl _) ?_)|(refine AR rfl (fun h=>?_) (fun h=>?_)<;>try (cases h;done)))<;>try simp -implicitDefEqProofs only [g5.own.BT,g5.own.At,if_true,go_sem])|(refine ⟨fun h=>?_,fun h=>?_⟩<;>first|(cases h;done)|try simp only [h])|fail))
  exact g5.fin
 |true=>
  rw [Ob hcc] at g6
  have g1a:=g1.adv ht hcc
  have hal:=BR g1.wf
  have hc:=hr (τ.AM i (psA L s2.adv)) s2.adv (g5.gt hg) g1a (by omega) (by rw [AO,if_pos rfl]:(τ.AM i (psA L s2.adv)).blk i=_)
  rw [A2] at hc
  have h1':=g1a.run read
  have hle:=read.le g1a.wf
  have hst:=g5.step (read.run s2.adv).2
  generalize read.run s2.adv=y at hc h1' hle g6 hst
  obtain ⟨x,s3⟩:=y
  simp only at hc h1' hle g6 hst
  obtain ⟨k0,n0,l0⟩:=x
  simp only [teA,TE.A0,AF,AI] at hc
  (repeat' (first|refine Run.ct rfl ?_|((first|refine Run.reg mixed ?_|refine Run.AJ ?_|(refine AH.upd (DG g1 t τ g5.blk hcc) ?_)|(refine ⟨fr,[.gp i 0],[],rfl,hb,AH.upd hc ?_ (by simp [JQ])⟩)|(refine hst.tok rfl (by simp) (by simp;omega) (by decide) (fun v2 τ2 ho=>?_))|(refine AR rfl (fun h=>?_) (fun h=>?_)<;>try (cases h;done)))<;>try simp -implicitDefEqProofs only [g5.own.BT,go_sem])|(refine ⟨fun h=>?_,fun h=>?_⟩<;>first|(cases h;done)|try simp only [h])|fail))
  refine ih (s3,l++[(TE.mk k0 n0 l0)],q,v2,τ2) ⟨h1',by simp only;omega,by simp only;omega,by simp only [AA,AD,AG];omega,?_,g6⟩ (by simp only;omega)
  simp only [BU,AF,AI,TE.A0]
  exact ho
theorem Rq (i:Nat) (L:List Tok) (n:Nat) {read:PM CE} {fr:FuncId} (hb:Ar Tryz.prog fr=true) (hr:PC fr [.gp i 0] i L n read ceA) (t:Str) (ht:t≠[]):
 PCo 128 [.gp i 0,.d (.str t),.fn fr [.gp i 0] []] i L n (items read t ht) 72 2 CE.enc:=by
 intro σ s hg h1 h2 h3
 refine Mp (by simp) ?_
 rw [H9]
 have hc:=hr σ s hg h1 h2 h3
 have h1':=h1.run read
 have hle:=read.le h1.wf
 have hit:(items read t ht).run s=(EZ read t ht BC [(read.run s).1]).run (read.run s).2:=rfl
 rw [hit]
 clear hit
 generalize read.run s=y at hc h1' hle ⊢
 obtain ⟨x,s1⟩:=y
 simp only at hc h1' hle ⊢
 obtain ⟨n0,l0⟩:=x
 simp only [ceA,CE.enc,AF,AI] at hc
 (repeat' (first|refine Run.ct rfl ?_|((first|refine Run.reg mixed ?_|refine Run.AJ ?_|(refine ⟨fr,[.gp i 0],[],rfl,hb,AH.upd hc ?_ (by simp [JQ])⟩)|(refine IT.own rfl (by decide) (fun tk htk=>?_))|(refine AR rfl (fun h=>?_) (fun h=>?_)<;>try (cases h;done)))<;>try simp -implicitDefEqProofs only [go_sem])|(refine ⟨fun h=>?_,fun h=>?_⟩<;>first|(cases h;done)|try simp only [h])|fail))
 refine Run.Be ?_
 have hf0:=FL
 have hl0:=h1.suf.length_le
 have hl1:=h1.len
 refine Run.Bn ((fun (a0:AV) (a1:AV) (a2:AV)=>fun (y:PSt×List CE×Nat×AV×AN)=>put 0 a0 (put 1 a1 (put 2 a2 (put 7 (y.2.2.2.1) U)))) _ _ _) (fun _=>E) (fun y=>y.2.2.2.2) (fun y=>POk L y.1∧y.1.r.length≤n∧y.1.r.length≤y.2.2.1∧y.2.1.length+y.1.r.length≤17001∧LS σ i L y.1 72 2 (y.2.1.map CE.enc) y.2.2.2.1 y.2.2.2.2∧(EZ read t ht y.2.2.1 y.2.1).run y.1=(EZ read t ht BC [(CE.mk n0 l0)]).run s1) (fun y=>y.1.r.length) ?_ (s1,[(CE.mk n0 l0)],BC,.own tk 72 2 _,_) ⟨h1',by simp only;omega,by simp only;omega,by simp only [AD,AG];omega,?_,rfl⟩
 rotate_left
 · simp only [AF,AI,CE.enc]
   exact LS.lit htk
 rintro ⟨s2,l,q,v,τ⟩ ⟨g1,g2,g3,g4,g5,g6⟩ ih
 simp only at g1 g2 g3 g4 g5 g6
 obtain ⟨q,rfl⟩:∃m,q=m+1:=⟨q - 1,by have:=An.2 g1.wf.ne;omega⟩
 cases hcc:(s2.hd.text==t) with
 |false=>
  rw [Oa hcc] at g6
  rw [← g6]
  (repeat' (first|refine Run.ct rfl ?_|((first|refine Run.reg mixed ?_|refine Run.AJ ?_|(refine AH.upd (DF g1 t τ g5.blk hcc) ?_)|(refine Run.GG HA (AN.le_refl _) ?_)|(refine AR rfl (fun h=>?_) (fun h=>?_)<;>try (cases h;done)))<;>try simp -implicitDefEqProofs only [g5.own.BT,g5.own.At,if_true,go_sem])|(refine ⟨fun h=>?_,fun h=>?_⟩<;>first|(cases h;done)|try simp only [h])|fail))
  exact g5.fin
 |true=>
  rw [Ob hcc] at g6
  have g1a:=g1.adv ht hcc
  have hal:=BR g1.wf
  have hc:=hr (τ.AM i (psA L s2.adv)) s2.adv (g5.gt hg) g1a (by omega) (by rw [AO,if_pos rfl]:(τ.AM i (psA L s2.adv)).blk i=_)
  rw [A2] at hc
  have h1':=g1a.run read
  have hle:=read.le g1a.wf
  have hst:=g5.step (read.run s2.adv).2
  generalize read.run s2.adv=y at hc h1' hle g6 hst
  obtain ⟨x,s3⟩:=y
  simp only at hc h1' hle g6 hst
  obtain ⟨n0,l0⟩:=x
  simp only [ceA,CE.enc,AF,AI] at hc
  (repeat' (first|refine Run.ct rfl ?_|((first|refine Run.reg mixed ?_|refine Run.AJ ?_|(refine AH.upd (DG g1 t τ g5.blk hcc) ?_)|(refine ⟨fr,[.gp i 0],[],rfl,hb,AH.upd hc ?_ (by simp [JQ])⟩)|(refine hst.tok rfl (by simp) (by simp;omega) (by decide) (fun v2 τ2 ho=>?_))|(refine AR rfl (fun h=>?_) (fun h=>?_)<;>try (cases h;done)))<;>try simp -implicitDefEqProofs only [g5.own.BT,go_sem])|(refine ⟨fun h=>?_,fun h=>?_⟩<;>first|(cases h;done)|try simp only [h])|fail))
  refine ih (s3,l++[(CE.mk n0 l0)],q,v2,τ2) ⟨h1',by simp only;omega,by simp only;omega,by simp only [AA,AD,AG];omega,?_,g6⟩ (by simp only;omega)
  simp only [BU,AF,AI,CE.enc]
  exact ho
theorem Uh (i:Nat) (L:List Tok) (n:Nat) {read:PM Ex} {fr:FuncId} (hb:Ar Tryz.prog fr=true) (hr:PC fr [.gp i 0] i L n read exA) (t:Str) (ht:t≠[]):
 PCo 216 [.gp i 0,.d (.str t),.fn fr [.gp i 0] []] i L n (items read t ht) 44 6 Ex.enc:=by
 intro σ s hg h1 h2 h3
 refine O4 (by simp) ?_
 rw [H9]
 have hc:=hr σ s hg h1 h2 h3
 have h1':=h1.run read
 have hle:=read.le h1.wf
 have hit:(items read t ht).run s=(EZ read t ht BC [(read.run s).1]).run (read.run s).2:=rfl
 rw [hit]
 clear hit
 generalize read.run s=y at hc h1' hle ⊢
 obtain ⟨x,s1⟩:=y
 simp only at hc h1' hle ⊢
 obtain ⟨o0,n0,u0,ns0,ks0,al0⟩:=x
 simp only [exA,Ex.A0,AF,AI] at hc
 (repeat' (first|refine Run.ct rfl ?_|((first|refine Run.reg mixed ?_|refine Run.AJ ?_|(refine ⟨fr,[.gp i 0],[],rfl,hb,AH.upd hc ?_ (by simp [JQ])⟩)|(refine IT.own rfl (by decide) (fun tk htk=>?_))|(refine AR rfl (fun h=>?_) (fun h=>?_)<;>try (cases h;done)))<;>try simp -implicitDefEqProofs only [go_sem])|(refine ⟨fun h=>?_,fun h=>?_⟩<;>first|(cases h;done)|try simp only [h])|fail))
 refine Run.Be ?_
 have hf0:=FL
 have hl0:=h1.suf.length_le
 have hl1:=h1.len
 refine Run.Bn ((fun (a0:AV) (a1:AV) (a2:AV)=>fun (y:PSt×List Ex×Nat×AV×AN)=>put 0 a0 (put 1 a1 (put 2 a2 (put 7 (y.2.2.2.1) U)))) _ _ _) (fun _=>E) (fun y=>y.2.2.2.2) (fun y=>POk L y.1∧y.1.r.length≤n∧y.1.r.length≤y.2.2.1∧y.2.1.length+y.1.r.length≤17001∧LS σ i L y.1 44 6 (y.2.1.map Ex.enc) y.2.2.2.1 y.2.2.2.2∧(EZ read t ht y.2.2.1 y.2.1).run y.1=(EZ read t ht BC [(Ex.mk o0 n0 u0 ns0 ks0 al0)]).run s1) (fun y=>y.1.r.length) ?_ (s1,[(Ex.mk o0 n0 u0 ns0 ks0 al0)],BC,.own tk 44 6 _,_) ⟨h1',by simp only;omega,by simp only;omega,by simp only [AD,AG];omega,?_,rfl⟩
 rotate_left
 · simp only [AF,AI,Ex.A0]
   exact LS.lit htk
 rintro ⟨s2,l,q,v,τ⟩ ⟨g1,g2,g3,g4,g5,g6⟩ ih
 simp only at g1 g2 g3 g4 g5 g6
 obtain ⟨q,rfl⟩:∃m,q=m+1:=⟨q - 1,by have:=An.2 g1.wf.ne;omega⟩
 cases hcc:(s2.hd.text==t) with
 |false=>
  rw [Oa hcc] at g6
  rw [← g6]
  (repeat' (first|refine Run.ct rfl ?_|((first|refine Run.reg mixed ?_|refine Run.AJ ?_|(refine AH.upd (DF g1 t τ g5.blk hcc) ?_)|(refine Run.GG I1 (AN.le_refl _) ?_)|(refine AR rfl (fun h=>?_) (fun h=>?_)<;>try (cases h;done)))<;>try simp -implicitDefEqProofs only [g5.own.BT,g5.own.At,if_true,go_sem])|(refine ⟨fun h=>?_,fun h=>?_⟩<;>first|(cases h;done)|try simp only [h])|fail))
  exact g5.fin
 |true=>
  rw [Ob hcc] at g6
  have g1a:=g1.adv ht hcc
  have hal:=BR g1.wf
  have hc:=hr (τ.AM i (psA L s2.adv)) s2.adv (g5.gt hg) g1a (by omega) (by rw [AO,if_pos rfl]:(τ.AM i (psA L s2.adv)).blk i=_)
  rw [A2] at hc
  have h1':=g1a.run read
  have hle:=read.le g1a.wf
  have hst:=g5.step (read.run s2.adv).2
  generalize read.run s2.adv=y at hc h1' hle g6 hst
  obtain ⟨x,s3⟩:=y
  simp only at hc h1' hle g6 hst
  obtain ⟨o0,n0,u0,ns0,ks0,al0⟩:=x
  simp only [exA,Ex.A0,AF,AI] at hc
  (repeat' (first|refine Run.ct rfl ?_|((first|refine Run.reg mixed ?_|refine Run.AJ ?_|(refine AH.upd (DG g1 t τ g5.blk hcc) ?_)|(refine ⟨fr,[.gp i 0],[],rfl,hb,AH.upd hc ?_ (by simp [JQ])⟩)|(refine hst.tok rfl (by simp) (by simp;omega) (by decide) (fun v2 τ2 ho=>?_))|(refine AR rfl (fun h=>?_) (fun h=>?_)<;>try (cases h;done)))<;>try simp -implicitDefEqProofs only [g5.own.BT,go_sem])|(refine ⟨fun h=>?_,fun h=>?_⟩<;>first|(cases h;done)|try simp only [h])|fail))
  refine ih (s3,l++[(Ex.mk o0 n0 u0 ns0 ks0 al0)],q,v2,τ2) ⟨h1',by simp only;omega,by simp only;omega,by simp only [AA,AD,AG];omega,?_,g6⟩ (by simp only;omega)
  simp only [BU,AF,AI,Ex.A0]
  exact ho
theorem V1 (i:Nat) (L:List Tok) (n:Nat) {read:PM Al} {fr:FuncId} (hb:Ar Tryz.prog fr=true) (hr:PC fr [.gp i 0] i L n read alA) (t:Str) (ht:t≠[]):
 PCo 170 [.gp i 0,.d (.str t),.fn fr [.gp i 0] []] i L n (items read t ht) 112 8 Al.enc:=by
 intro σ s hg h1 h2 h3
 refine Pc (by simp) ?_
 rw [H9]
 have hc:=hr σ s hg h1 h2 h3
 have h1':=h1.run read
 have hle:=read.le h1.wf
 have hit:(items read t ht).run s=(EZ read t ht BC [(read.run s).1]).run (read.run s).2:=rfl
 rw [hit]
 clear hit
 generalize read.run s=y at hc h1' hle ⊢
 obtain ⟨x,s1⟩:=y
 simp only at hc h1' hle ⊢
 obtain ⟨c0,vs0,⟨o0,n0,u0,ns0,ks0,al0⟩⟩:=x
 simp only [alA,Al.A0,AF,AI] at hc
 (repeat' (first|refine Run.ct rfl ?_|((first|refine Run.reg mixed ?_|refine Run.AJ ?_|(refine ⟨fr,[.gp i 0],[],rfl,hb,AH.upd hc ?_ (by simp [JQ])⟩)|(refine IT.own rfl (by decide) (fun tk htk=>?_))|(refine AR rfl (fun h=>?_) (fun h=>?_)<;>try (cases h;done)))<;>try simp -implicitDefEqProofs only [go_sem])|(refine ⟨fun h=>?_,fun h=>?_⟩<;>first|(cases h;done)|try simp only [h])|fail))
 refine Run.Be ?_
 have hf0:=FL
 have hl0:=h1.suf.length_le
 have hl1:=h1.len
 refine Run.Bn ((fun (a0:AV) (a1:AV) (a2:AV)=>fun (y:PSt×List Al×Nat×AV×AN)=>put 0 a0 (put 1 a1 (put 2 a2 (put 7 (y.2.2.2.1) U)))) _ _ _) (fun _=>E) (fun y=>y.2.2.2.2) (fun y=>POk L y.1∧y.1.r.length≤n∧y.1.r.length≤y.2.2.1∧y.2.1.length+y.1.r.length≤17001∧LS σ i L y.1 112 8 (y.2.1.map Al.enc) y.2.2.2.1 y.2.2.2.2∧(EZ read t ht y.2.2.1 y.2.1).run y.1=(EZ read t ht BC [(Al.mk c0 vs0 (.mk o0 n0 u0 ns0 ks0 al0))]).run s1) (fun y=>y.1.r.length) ?_ (s1,[(Al.mk c0 vs0 (.mk o0 n0 u0 ns0 ks0 al0))],BC,.own tk 112 8 _,_) ⟨h1',by simp only;omega,by simp only;omega,by simp only [AD,AG];omega,?_,rfl⟩
 rotate_left
 · simp only [AF,AI,Al.A0]
   exact LS.lit htk
 rintro ⟨s2,l,q,v,τ⟩ ⟨g1,g2,g3,g4,g5,g6⟩ ih
 simp only at g1 g2 g3 g4 g5 g6
 obtain ⟨q,rfl⟩:∃m,q=m+1:=⟨q - 1,by have:=An.2 g1.wf.ne;omega⟩
 cases hcc:(s2.hd.text==t) with
 |false=>
  rw [Oa hcc] at g6
  rw [← g6]
  (repeat' (first|refine Run.ct rfl ?_|((first|refine Run.reg mixed ?_|refine Run.AJ ?_|(refine AH.upd (DF g1 t τ g5.blk hcc) ?_)|(refine Run.GG JG (AN.le_refl _) ?_)|(refine AR rfl (fun h=>?_) (fun h=>?_)<;>try (cases h;done)))<;>try simp -implicitDefEqProofs only [g5.own.BT,g5.own.At,if_true,go_sem])|(refine ⟨fun h=>?_,fun h=>?_⟩<;>first|(cases h;done)|try simp only [h])|fail))
  exact g5.fin
 |true=>
  rw [Ob hcc] at g6
  have g1a:=g1.adv ht hcc
  have hal:=BR g1.wf
  have hc:=hr (τ.AM i (psA L s2.adv)) s2.adv (g5.gt hg) g1a (by omega) (by rw [AO,if_pos rfl]:(τ.AM i (psA L s2.adv)).blk i=_)
  rw [A2] at hc
  have h1':=g1a.run read
  have hle:=read.le g1a.wf
  have hst:=g5.step (read.run s2.adv).2
  generalize read.run s2.adv=y at hc h1' hle g6 hst
  obtain ⟨x,s3⟩:=y
  simp only at hc h1' hle g6 hst
  obtain ⟨c0,vs0,⟨o0,n0,u0,ns0,ks0,al0⟩⟩:=x
  simp only [alA,Al.A0,AF,AI] at hc
  (repeat' (first|refine Run.ct rfl ?_|((first|refine Run.reg mixed ?_|refine Run.AJ ?_|(refine AH.upd (DG g1 t τ g5.blk hcc) ?_)|(refine ⟨fr,[.gp i 0],[],rfl,hb,AH.upd hc ?_ (by simp [JQ])⟩)|(refine hst.tok rfl (by simp) (by simp;omega) (by decide) (fun v2 τ2 ho=>?_))|(refine AR rfl (fun h=>?_) (fun h=>?_)<;>try (cases h;done)))<;>try simp -implicitDefEqProofs only [g5.own.BT,go_sem])|(refine ⟨fun h=>?_,fun h=>?_⟩<;>first|(cases h;done)|try simp only [h])|fail))
  refine ih (s3,l++[(Al.mk c0 vs0 (.mk o0 n0 u0 ns0 ks0 al0))],q,v2,τ2) ⟨h1',by simp only;omega,by simp only;omega,by simp only [AA,AD,AG];omega,?_,g6⟩ (by simp only;omega)
  simp only [BU,AF,AI,Al.A0]
  exact ho
theorem HW (i:Nat) (L:List Tok) (n:Nat) {read:PM Str} {fr:FuncId} (hb:Ar Tryz.prog fr=true) (hr:PC fr [.gp i 0] i L n read (fun x:Str=>.d (.str x))):
 PCo 166 [.gp i 0,.fn fr [.gp i 0] []] i L n (listed read) 9 1 D3:=by
 intro σ s hg h1 h2 h3
 refine Pd (by simp) ?_
 rw [BI]
 have hc:=W8 i L n hb hr [44] (by decide) σ s hg h1 h2 h3
 have hr2:(listed read).run s=(((items read [44] (by decide)).run s).1,((PM.exp [41] (by decide)).run ((items read [44] (by decide)).run s).2).2):=rfl
 rw [hr2]
 (repeat' (first|refine Run.ct rfl ?_|((first|refine Run.reg mixed ?_|refine Run.AJ ?_|(refine AH.mk rfl hc ?_;intro v σ1 ho;have hl:=LS.of ho)|(refine AR rfl (fun h=>?_) (fun h=>?_)<;>try (cases h;done)))<;>try simp -implicitDefEqProofs only [go_sem])|(refine ⟨fun h=>?_,fun h=>?_⟩<;>first|(cases h;done)|try simp only [h])|fail))
 (repeat' (first|refine Run.ct rfl ?_|((first|refine Run.reg mixed ?_|refine Run.AJ ?_|(refine AH.upd (Tq (h1.run _) [41] (by decide) σ1 hl.blk) ?_)|(refine Run.GG JH (AN.le_refl _) ?_)|(refine AR rfl (fun h=>?_) (fun h=>?_)<;>try (cases h;done)))<;>try simp -implicitDefEqProofs only [ho.BT,ho.At,if_true,go_sem])|(refine ⟨fun h=>?_,fun h=>?_⟩<;>first|(cases h;done)|try simp only [h])|fail))
 exact (hl.step _).fin
theorem OX (i:Nat) (L:List Tok) (n:Nat) {read:PM Str} {fr:FuncId} (hb:Ar Tryz.prog fr=true) (hr:PC fr [.gp i 0] i L n read (fun x:Str=>.d (.str x))):
 PCo 130 [.gp i 0,.fn fr [.gp i 0] []] i L n (closed read) 9 1 D3:=by
 intro σ s hg h1 h2 h3
 refine Pb (by simp) ?_
 rw [BI]
 cases hcc:(s.hd.text==[41]) with
 |true=>
  have hr2:(closed read).run s=([],s.adv):=if_pos hcc
  rw [hr2]
  (repeat' (first|refine Run.ct rfl ?_|((first|refine Run.reg mixed ?_|refine Run.AJ ?_|refine Run.GG Fz (AN.le_refl _) ?_|(refine AH.upd (DG h1 _ σ h3 hcc) ?_)|(refine AR rfl (fun h=>?_) (fun h=>?_)<;>try (cases h;done)))<;>try simp -implicitDefEqProofs only [go_sem])|(refine ⟨fun h=>?_,fun h=>?_⟩<;>first|(cases h;done)|try simp only [h])|fail))
  exact E3.nil _ _ _
 |false=>
  have hr2:(closed read).run s=(listed read).run s:=if_neg (by rw [hcc];decide)
  rw [hr2]
  (repeat' (first|refine Run.ct rfl ?_|((first|refine Run.reg mixed ?_|refine Run.AJ ?_|(refine AH.upd (DF h1 _ σ h3 hcc) ?_)|(refine AH.mk rfl (HW i L n hb hr σ s hg h1 h2 h3) ?_;intro v σ1 ho)|(refine Run.GG Fz (AN.le_refl _) ?_)|(refine AR rfl (fun h=>?_) (fun h=>?_)<;>try (cases h;done)))<;>try simp -implicitDefEqProofs only [go_sem])|(refine ⟨fun h=>?_,fun h=>?_⟩<;>first|(cases h;done)|try simp only [h])|fail))
  rw [if_pos ho.At]
  exact ho
theorem Og (i:Nat) (L:List Tok) (n:Nat) {read:PM Str} {fr:FuncId} (hb:Ar Tryz.prog fr=true) (hr:PC fr [.gp i 0] i L n read (fun x:Str=>.d (.str x))):
 PCo 125 [.gp i 0,.fn fr [.gp i 0] []] i L (n+1) (Ht read) 9 1 D3:=by
 intro σ s hg h1 h2 h3
 refine Ph (by simp) ?_
 rw [BI]
 cases hcc:(s.hd.text==[40]) with
 |true=>
  have hr2:(Ht read).run s=(listed read).run s.adv:=if_pos hcc
  rw [hr2]
  have hal:=BR h1.wf
  have hc:=HW i L n hb hr (σ.AM i (psA L s.adv)) s.adv hg (h1.adv (by decide) hcc) (by omega) (by rw [AO,if_pos rfl])
  rw [A2] at hc
  (repeat' (first|refine Run.ct rfl ?_|((first|refine Run.reg mixed ?_|refine Run.AJ ?_|(refine AH.upd (DG h1 _ σ h3 hcc) ?_)|(refine AH.mk rfl hc ?_;intro v σ1 ho)|(refine Run.GG GB (AN.le_refl _) ?_)|(refine AR rfl (fun h=>?_) (fun h=>?_)<;>try (cases h;done)))<;>try simp -implicitDefEqProofs only [go_sem])|(refine ⟨fun h=>?_,fun h=>?_⟩<;>first|(cases h;done)|try simp only [h])|fail))
  rw [if_pos ho.At]
  exact ho
 |false=>
  have hr2:(Ht read).run s=([],s):=if_neg (by rw [hcc];decide)
  rw [hr2]
  (repeat' (first|refine Run.ct rfl ?_|((first|refine Run.reg mixed ?_|refine Run.AJ ?_|refine Run.GG GB (AN.le_refl _) ?_|(refine AH.upd (DF h1 _ σ h3 hcc) ?_)|(refine AR rfl (fun h=>?_) (fun h=>?_)<;>try (cases h;done)))<;>try simp -implicitDefEqProofs only [go_sem])|(refine ⟨fun h=>?_,fun h=>?_⟩<;>first|(cases h;done)|try simp only [h])|fail))
  have:=E3.nil (σ.AM i (psA L s)) 9 1
  rwa [Ia h3] at this ⊢
theorem Ed (i:Nat) (L:List Tok) (n:Nat) {read:PM TE} {fr:FuncId} (hb:Ar Tryz.prog fr=true) (hr:PC fr [.gp i 0] i L n read teA):
 PCo 183 [.gp i 0,.fn fr [.gp i 0] []] i L n (listed read) 75 3 TE.enc:=by
 intro σ s hg h1 h2 h3
 refine L4 (by simp) ?_
 rw [BI]
 have hc:=Ql i L n hb hr [44] (by decide) σ s hg h1 h2 h3
 have hr2:(listed read).run s=(((items read [44] (by decide)).run s).1,((PM.exp [41] (by decide)).run ((items read [44] (by decide)).run s).2).2):=rfl
 rw [hr2]
 (repeat' (first|refine Run.ct rfl ?_|((first|refine Run.reg mixed ?_|refine Run.AJ ?_|(refine AH.mk rfl hc ?_;intro v σ1 ho;have hl:=LS.of ho)|(refine AR rfl (fun h=>?_) (fun h=>?_)<;>try (cases h;done)))<;>try simp -implicitDefEqProofs only [go_sem])|(refine ⟨fun h=>?_,fun h=>?_⟩<;>first|(cases h;done)|try simp only [h])|fail))
 (repeat' (first|refine Run.ct rfl ?_|((first|refine Run.reg mixed ?_|refine Run.AJ ?_|(refine AH.upd (Tq (h1.run _) [41] (by decide) σ1 hl.blk) ?_)|(refine Run.GG GR (AN.le_refl _) ?_)|(refine AR rfl (fun h=>?_) (fun h=>?_)<;>try (cases h;done)))<;>try simp -implicitDefEqProofs only [ho.BT,ho.At,if_true,go_sem])|(refine ⟨fun h=>?_,fun h=>?_⟩<;>first|(cases h;done)|try simp only [h])|fail))
 exact (hl.step _).fin
theorem PY (i:Nat) (L:List Tok) (n:Nat) {read:PM TE} {fr:FuncId} (hb:Ar Tryz.prog fr=true) (hr:PC fr [.gp i 0] i L n read teA):
 PCo 185 [.gp i 0,.fn fr [.gp i 0] []] i L n (closed read) 75 3 TE.enc:=by
 intro σ s hg h1 h2 h3
 refine L3 (by simp) ?_
 rw [BI]
 cases hcc:(s.hd.text==[41]) with
 |true=>
  have hr2:(closed read).run s=([],s.adv):=if_pos hcc
  rw [hr2]
  (repeat' (first|refine Run.ct rfl ?_|((first|refine Run.reg mixed ?_|refine Run.AJ ?_|refine Run.GG EX (AN.le_refl _) ?_|(refine AH.upd (DG h1 _ σ h3 hcc) ?_)|(refine AR rfl (fun h=>?_) (fun h=>?_)<;>try (cases h;done)))<;>try simp -implicitDefEqProofs only [go_sem])|(refine ⟨fun h=>?_,fun h=>?_⟩<;>first|(cases h;done)|try simp only [h])|fail))
  exact E3.nil _ _ _
 |false=>
  have hr2:(closed read).run s=(listed read).run s:=if_neg (by rw [hcc];decide)
  rw [hr2]
  (repeat' (first|refine Run.ct rfl ?_|((first|refine Run.reg mixed ?_|refine Run.AJ ?_|(refine AH.upd (DF h1 _ σ h3 hcc) ?_)|(refine AH.mk rfl (Ed i L n hb hr σ s hg h1 h2 h3) ?_;intro v σ1 ho)|(refine Run.GG EX (AN.le_refl _) ?_)|(refine AR rfl (fun h=>?_) (fun h=>?_)<;>try (cases h;done)))<;>try simp -implicitDefEqProofs only [go_sem])|(refine ⟨fun h=>?_,fun h=>?_⟩<;>first|(cases h;done)|try simp only [h])|fail))
  rw [if_pos ho.At]
  exact ho
theorem JR (i:Nat) (L:List Tok) (n:Nat) {read:PM TE} {fr:FuncId} (hb:Ar Tryz.prog fr=true) (hr:PC fr [.gp i 0] i L n read teA):
 PCo 167 [.gp i 0,.fn fr [.gp i 0] []] i L (n+1) (Ht read) 75 3 TE.enc:=by
 intro σ s hg h1 h2 h3
 refine L5 (by simp) ?_
 rw [BI]
 cases hcc:(s.hd.text==[40]) with
 |true=>
  have hr2:(Ht read).run s=(listed read).run s.adv:=if_pos hcc
  rw [hr2]
  have hal:=BR h1.wf
  have hc:=Ed i L n hb hr (σ.AM i (psA L s.adv)) s.adv hg (h1.adv (by decide) hcc) (by omega) (by rw [AO,if_pos rfl])
  rw [A2] at hc
  (repeat' (first|refine Run.ct rfl ?_|((first|refine Run.reg mixed ?_|refine Run.AJ ?_|(refine AH.upd (DG h1 _ σ h3 hcc) ?_)|(refine AH.mk rfl hc ?_;intro v σ1 ho)|(refine Run.GG EY (AN.le_refl _) ?_)|(refine AR rfl (fun h=>?_) (fun h=>?_)<;>try (cases h;done)))<;>try simp -implicitDefEqProofs only [go_sem])|(refine ⟨fun h=>?_,fun h=>?_⟩<;>first|(cases h;done)|try simp only [h])|fail))
  rw [if_pos ho.At]
  exact ho
 |false=>
  have hr2:(Ht read).run s=([],s):=if_neg (by rw [hcc];decide)
  rw [hr2]
  (repeat' (first|refine Run.ct rfl ?_|((first|refine Run.reg mixed ?_|refine Run.AJ ?_|refine Run.GG EY (AN.le_refl _) ?_|(refine AH.upd (DF h1 _ σ h3 hcc) ?_)|(refine AR rfl (fun h=>?_) (fun h=>?_)<;>try (cases h;done)))<;>try simp -implicitDefEqProofs only [go_sem])|(refine ⟨fun h=>?_,fun h=>?_⟩<;>first|(cases h;done)|try simp only [h])|fail))
  have:=E3.nil (σ.AM i (psA L s)) 75 3
  rwa [Ia h3] at this ⊢
theorem GF (i:Nat) (L:List Tok) (n:Nat) {read:PM Ex} {fr:FuncId} (hb:Ar Tryz.prog fr=true) (hr:PC fr [.gp i 0] i L n read exA):
 PCo 214 [.gp i 0,.fn fr [.gp i 0] []] i L n (listed read) 44 6 Ex.enc:=by
 intro σ s hg h1 h2 h3
 refine Nx (by simp) ?_
 rw [BI]
 have hc:=Uh i L n hb hr [44] (by decide) σ s hg h1 h2 h3
 have hr2:(listed read).run s=(((items read [44] (by decide)).run s).1,((PM.exp [41] (by decide)).run ((items read [44] (by decide)).run s).2).2):=rfl
 rw [hr2]
 (repeat' (first|refine Run.ct rfl ?_|((first|refine Run.reg mixed ?_|refine Run.AJ ?_|(refine AH.mk rfl hc ?_;intro v σ1 ho;have hl:=LS.of ho)|(refine AR rfl (fun h=>?_) (fun h=>?_)<;>try (cases h;done)))<;>try simp -implicitDefEqProofs only [go_sem])|(refine ⟨fun h=>?_,fun h=>?_⟩<;>first|(cases h;done)|try simp only [h])|fail))
 (repeat' (first|refine Run.ct rfl ?_|((first|refine Run.reg mixed ?_|refine Run.AJ ?_|(refine AH.upd (Tq (h1.run _) [41] (by decide) σ1 hl.blk) ?_)|(refine Run.GG Hq (AN.le_refl _) ?_)|(refine AR rfl (fun h=>?_) (fun h=>?_)<;>try (cases h;done)))<;>try simp -implicitDefEqProofs only [ho.BT,ho.At,if_true,go_sem])|(refine ⟨fun h=>?_,fun h=>?_⟩<;>first|(cases h;done)|try simp only [h])|fail))
 exact (hl.step _).fin
theorem To (i:Nat) (L:List Tok) (n:Nat) {read:PM Ex} {fr:FuncId} (hb:Ar Tryz.prog fr=true) (hr:PC fr [.gp i 0] i L n read exA):
 PCo 208 [.gp i 0,.fn fr [.gp i 0] []] i L n (closed read) 44 6 Ex.enc:=by
 intro σ s hg h1 h2 h3
 refine Nw (by simp) ?_
 rw [BI]
 cases hcc:(s.hd.text==[41]) with
 |true=>
  have hr2:(closed read).run s=([],s.adv):=if_pos hcc
  rw [hr2]
  (repeat' (first|refine Run.ct rfl ?_|((first|refine Run.reg mixed ?_|refine Run.AJ ?_|refine Run.GG FT (AN.le_refl _) ?_|(refine AH.upd (DG h1 _ σ h3 hcc) ?_)|(refine AR rfl (fun h=>?_) (fun h=>?_)<;>try (cases h;done)))<;>try simp -implicitDefEqProofs only [go_sem])|(refine ⟨fun h=>?_,fun h=>?_⟩<;>first|(cases h;done)|try simp only [h])|fail))
  exact E3.nil _ _ _
 |false=>
  have hr2:(closed read).run s=(listed read).run s:=if_neg (by rw [hcc];decide)
  rw [hr2]
  (repeat' (first|refine Run.ct rfl ?_|((first|refine Run.reg mixed ?_|refine Run.AJ ?_|(refine AH.upd (DF h1 _ σ h3 hcc) ?_)|(refine AH.mk rfl (GF i L n hb hr σ s hg h1 h2 h3) ?_;intro v σ1 ho)|(refine Run.GG FT (AN.le_refl _) ?_)|(refine AR rfl (fun h=>?_) (fun h=>?_)<;>try (cases h;done)))<;>try simp -implicitDefEqProofs only [go_sem])|(refine ⟨fun h=>?_,fun h=>?_⟩<;>first|(cases h;done)|try simp only [h])|fail))
  rw [if_pos ho.At]
  exact ho
theorem UB (i:Nat) (L:List Tok) (n:Nat) {read:PM Ex} {fr:FuncId} (hb:Ar Tryz.prog fr=true) (hr:PC fr [.gp i 0] i L n read exA):
 PCo 210 [.gp i 0,.fn fr [.gp i 0] []] i L (n+1) (Ht read) 44 6 Ex.enc:=by
 intro σ s hg h1 h2 h3
 refine Ny (by simp) ?_
 rw [BI]
 cases hcc:(s.hd.text==[40]) with
 |true=>
  have hr2:(Ht read).run s=(listed read).run s.adv:=if_pos hcc
  rw [hr2]
  have hal:=BR h1.wf
  have hc:=GF i L n hb hr (σ.AM i (psA L s.adv)) s.adv hg (h1.adv (by decide) hcc) (by omega) (by rw [AO,if_pos rfl])
  rw [A2] at hc
  (repeat' (first|refine Run.ct rfl ?_|((first|refine Run.reg mixed ?_|refine Run.AJ ?_|(refine AH.upd (DG h1 _ σ h3 hcc) ?_)|(refine AH.mk rfl hc ?_;intro v σ1 ho)|(refine Run.GG FU (AN.le_refl _) ?_)|(refine AR rfl (fun h=>?_) (fun h=>?_)<;>try (cases h;done)))<;>try simp -implicitDefEqProofs only [go_sem])|(refine ⟨fun h=>?_,fun h=>?_⟩<;>first|(cases h;done)|try simp only [h])|fail))
  rw [if_pos ho.At]
  exact ho
 |false=>
  have hr2:(Ht read).run s=([],s):=if_neg (by rw [hcc];decide)
  rw [hr2]
  (repeat' (first|refine Run.ct rfl ?_|((first|refine Run.reg mixed ?_|refine Run.AJ ?_|refine Run.GG FU (AN.le_refl _) ?_|(refine AH.upd (DF h1 _ σ h3 hcc) ?_)|(refine AR rfl (fun h=>?_) (fun h=>?_)<;>try (cases h;done)))<;>try simp -implicitDefEqProofs only [go_sem])|(refine ⟨fun h=>?_,fun h=>?_⟩<;>first|(cases h;done)|try simp only [h])|fail))
  have:=E3.nil (σ.AM i (psA L s)) 44 6
  rwa [Ia h3] at this ⊢
end Go.Ab
