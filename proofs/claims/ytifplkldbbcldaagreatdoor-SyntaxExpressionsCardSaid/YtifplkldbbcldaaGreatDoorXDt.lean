/- Data types of package api as plain data. Guarded operations that change nothing, run whatever the guard is. The parser's state in memory; its steps over single tokens. Lists that the parser builds: rows that it owns. Lists of the parser: items, listed, closed, option. Conditions: none. -/
import Derived.Test.YtifplkldbbcldaaGreatDoorXRa
set_option linter.unusedSimpArgs false
set_option linter.unusedVariables false
set_option maxRecDepth 4000
set_option maxHeartbeats 8000000
open List renaming take_append_drop→En,getElem?_map→BC,getElem?_append_right→BB,getElem?_eq_some_iff→Aa,length_pos_iff→Aq,length_map→AG,length_append→AA,length_cons→AB,length_nil→AE,map_cons→AF,map_nil→AI,map_append→Bp
open Bool renaming eq_iff_iff→Dn
open Nat renaming le_refl→A9,le_trans→BD
namespace Go.Ab
structure Con where
 name:List UInt8
 args:List Ty
structure Dat where
 name:List UInt8
 vars:Int
 cons:List Con
def Con.enc (c:Con):List DV:=[.str c.name,.sl (Ty.Nk c.args)]
def Dat.enc (d:Dat):List DV:=[.str d.name,.int .i64 d.vars,.sl (d.cons.map Con.enc)]
theorem GU (l:List Ty) (i:Nat):Ty.Ar (l.take i)≤Ty.Ar l:=by
 have:=Cw (l.take i) (l.drop i)
 rw [En] at this;omega
theorem Ul {a:Nat} (h:a≤9000000000000000000):IntKind.i64.wrap (((a+1:Nat):Int) - 1)=(a:Int):=by
 rw [BF (by omega) (by omega)];omega
theorem Run.xF {cx:Cx} {KK:AV→AM→Prop} {k:List CI} {F:Fm} {L:Lm} {σ σ':AM} (e:σ'=σ) (h:Run cx KK k F L σ'):Run cx KK k F L σ:=e ▸ h
theorem Run.ABP {cx:Cx} {KK:AV→AM→Prop} {k:List CI} {c:C} {F:Fm} {L:Lm} {σ:AM} {α:Type} (ks:List Nat) (Fs:α→Fm) (Ls:Lm) (σs:AM) (I:α→Prop) (h2:∀a,I a→Run cx KK k (Fs a) Ls σs)
 (h1:(∀(F':Fm) (L':Lm) (a:α),WE ks F'=Fs a→SZ ks L'=Ls→I a→Run cx KK k F' L' σs)→Run cx KK (.code c::k) F L σ):Run cx KK (.code c::k) F L σ:=
 h1 fun F' L' a hF hL hI=>Run.PN ks (by rw [hF,hL];exact h2 a hI)
theorem sB {σ:AM} {i:Nat} {z:List AV} {x:Nat×TypeId} (h:σ.blk i=none∧σ.bt i=none):σ.le ((σ.AL i z).GG i x)∧((σ.AL i z).GG i x).blk i=some z:=
 ⟨⟨fun j cs hj=>by
    have hne:j≠i:=fun e=>by rw [e,h.1] at hj;cases hj
    simp [AM.GG,AM.AL,hne,hj],fun _ h=>h,rfl,fun j y hj=>by
    have hne:j≠i:=fun e=>by rw [e,h.2] at hj;cases hj
    simp [AM.GG,AM.AL,hne,hj]⟩,by simp [AM.GG,AM.AL]⟩
theorem k6 {σ σ1:AM} {i:Nat} {cs:List AV} (h:σ.le σ1) (hn:σ.blk i=none):σ.le (σ1.AL i cs):=
 ⟨fun j ds hj=>by
   have hne:j≠i:=fun e=>by rw [e,hn] at hj;cases hj
   rw [AO,if_neg hne];exact h.blk j ds hj,h.tok,h.gt,h.bt⟩
theorem EB (a b:List UInt8):aX .eql a b=some (.d (.bool (a==b))):=rfl
theorem J4 (a b:List UInt8):aX .neq a b=some (.d (.bool (!(a==b)))):=rfl
theorem gtN (n k:Nat):decide ((k:Int) < (n:Int))=!decide (n≤k):=by
 rw [Dn];simp
theorem leN (n k:Nat):decide ((n:Int)≤(k:Int))=decide (n≤k):=decide_eq_decide.2 (by omega)
theorem ltN (n k:Nat):decide ((n:Int) < (k:Int))=decide (n < k):=decide_eq_decide.2 (by omega)
theorem Bq {a b:Int} (h:a≠b):(a==b)=false:=by simpa using h
end Go.Ab
namespace Go.Ab
open Go.RowKit
variable {P:Program} {K:CV} {F:Fm} {L:Lm} {σ:AM}
def sel (c:Bool) (v:AV):AV:=if c then v else .tup []
theorem ZX (v:AV):sel true v=v:=rfl
def GV (want:Bool) (x:AV) (c:Bool):Prop:=gdV want x=some c
theorem GV.t {b:Bool}:GV true (.d (.bool b)) b:=by cases b<;>rfl
theorem GV.f {b:Bool}:GV false (.d (.bool b)) (!b):=by cases b<;>rfl
theorem GV.st {b c:Bool}:GV true (sel c (.d (.bool b))) (c&&b):=by cases b<;>cases c<;>rfl
theorem GV.sf {b c:Bool}:GV false (sel c (.d (.bool b))) (c&& !b):=by cases b<;>cases c<;>rfl
def Is (d:Nat) (v:AV) (F:Fm) (L:Lm) (σ:AM):CV:=fun F' L' σ'=>F'=put d v F∧L'=L∧σ'=σ
theorem Is.mk {d:Nat} {v:AV}:Is d v F L σ (put d v F) L σ:=⟨rfl,rfl,rfl⟩
theorem ADR {d s:Nat} {o:O} {want c:Bool} {v:AV} {r:List Q} (hg:GV want (F s) c)
 (hy:c=true→BN P (Is d v F L σ) [⟨some d,o,none⟩] F L σ)
 (hk:BN P K r (put d (sel c v) F) L σ):BN P K (⟨some d,o,some (s,want)⟩::r) F L σ:=by
 show XG (gd F (some (s,want))) (XO P (some d) (BN P K r) F L σ o) (BN P K r (Au (some d) (.tup []) F) L σ)
 have hgd:gd F (some (s,want))=some c:=hg
 rw [hgd]
 cases c with
 |true=>exact jP (fun F' L' σ' ⟨h1,h2,h3⟩=>by rw [h1,h2,h3];exact hk) (hy rfl)
 |false=>exact hk
theorem Lq (c x:Bool):(if c=true then sel c (.d (.bool x)) else (.d (.bool false)))=AV.d (.bool (c&&x)):=by cases c<;>rfl
theorem Qu (c x:Bool):(if c=true then (.d (.bool true)) else sel (!c) (.d (.bool x)))=AV.d (.bool (c||x)):=by cases c<;>rfl
end Go.Ab
namespace Go.Ab
theorem fG {P:Program} {K:CV} {F:Fm} {L:Lm} {σ:AM} {d s:Nat} {o:O} {want c:Bool} {r:List Q} (hg:GV want (F s) c)
 (h:∃v,(c=true→BN P (Is d v F L σ) [⟨some d,o,none⟩] F L σ)∧BN P K r (put d (sel c v) F) L σ):BN P K (⟨some d,o,some (s,want)⟩::r) F L σ:=by
 obtain ⟨v,h1,h2⟩:=h
 exact ADR hg h1 h2
end Go.Ab
namespace Go.Ab
theorem Is.pv {d:Nat} {v:AV} {F:Fm} {L:Lm} {σ:AM} {x:Option AV} (h:x=some v):XPv x (some d) (Is d v F L σ) F L σ:=by
 subst h;exact Is.mk
theorem AH.kF {P:Program} {f:FuncId} {args args':List AV} {d:Option Nat} {K:CV} {F:Fm} {L:Lm} {σ:AM} (e:args=args') (h:AH P f args' d K F L σ):AH P f args d K F L σ:=e ▸ h
end Go.Ab
namespace Go.Ab
theorem OH (c:Bool) (v:AV):sel c (sel c v)=sel c v:=by cases c<;>rfl
theorem Sj (c x:Bool) (v:AV):sel (c&&x) (sel c v)=sel (c&&x) v:=by cases c<;>cases x<;>rfl
theorem Sk (c x:Bool) (v:AV):sel (c&&x) (sel x v)=sel (c&&x) v:=by cases c<;>cases x<;>rfl
end Go.Ab
namespace Go.Ab
theorem Lr (c x:Bool):(if (!c)=true then (.d (.bool true)) else sel c (.d (.bool x)))=AV.d (.bool (!c||x)):=by cases c<;>rfl
end Go.Ab
namespace Go.Ab
open Go.Proofs
variable {P:Program} {cx:Cx} {F:Fm} {Lm0:Lm} {σ σ1:AM} {KX:CV}
theorem AH.upd {d:Option Nat} {f:FuncId} {args:List AV} {v:AV} (h:AP P f args σ (fun v' σ'=>v'=v∧σ'=σ1)) (hk:KX (Au d v F) Lm0 σ1) (hn:args.all AV.Ay=true:=by rfl):AH P f args d KX F Lm0 σ:=
 AH.mk hn h (fun v' σ' ⟨e1,e2⟩=>by subst e1;subst e2;exact hk)
def Zh (L:List Tok):DV:= .sl (L.map Tok.enc)
def psA (L:List Tok) (s:PSt):List AV:=[.d (Zh L),.d (.int .i64 ((L.length - s.r.length:Nat):Int)),.d (.bool s.f),.d (.int .i64 ((s.p:Nat):Int))]
structure POk (L:List Tok) (s:PSt):Prop where
 wf:WF s.r
 suf:s.r <:+L
 len:L.length≤17000
theorem POk.run {α:Type} {L:List Tok} {s:PSt} (h:POk L s) (m:PM α):POk L (m.run s).2:=⟨(m.sf s h.wf).1,(m.sf s h.wf).2.trans h.suf,h.len⟩
theorem PM.le {α:Type} {s:PSt} (m:PM α) (h:WF s.r):(m.run s).2.r.length≤s.r.length:=(m.sf s h).2.length_le
theorem POk.at {L:List Tok} {s:PSt} (h:POk L s):(L.map Tok.enc)[L.length - s.r.length]?=some [.int .i64 s.hd.kind,.str s.hd.text,.int .i64 ((s.hd.pos:Nat):Int)]:=by
 obtain ⟨pre,he⟩:=h.suf
 obtain ⟨r,f,p⟩:=s
 cases r with
 |nil=>exact h.wf.elim
 |cons t l=>
  simp only at he
  subst he
  rw [BC,show (pre++t::l).length - (t::l).length=pre.length by simp,BB (A9 _),Nat.sub_self];rfl
theorem POk.adv {L:List Tok} {s:PSt} (h:POk L s) {t:Str} (ht:t≠[]) (hc:(s.hd.text==t)=true):POk L s.adv:=by
 rw [beq_iff_eq] at hc
 obtain ⟨h1,h2⟩:=Sx h.wf (.inr (by rw [hc];exact ht))
 exact ⟨h1,h2.trans h.suf,h.len⟩
theorem POk.fail {L:List Tok} {s:PSt} (h:POk L s):POk L s.fail:=⟨(Vj h.wf).1,(Vj h.wf).2.trans h.suf,h.len⟩
theorem POk.idx {L:List Tok} {s:PSt} (h:POk L s):L.length - s.adv.r.length=(L.length - s.r.length)+1∧L.length - s.r.length≤17000:=by
 have h1:=BX h.wf
 have h2:=h.suf.length_le
 have h3:=h.len
 omega
theorem oG {L:List Tok} {s:PSt} (h:POk L s):psA L s.adv=[.d (Zh L),.d (.int .i64 (((L.length - s.r.length)+1:Nat):Int)),.d (.bool s.f),.d (.int .i64 ((s.p:Nat):Int))]:=by
 unfold psA;rw [h.idx.1];rfl
section
variable {L:List Tok} {i:Nat} {s:PSt}
theorem QU (hs:POk L s) (σ:AM) (hb:σ.blk i=some (psA L s)):AP Tryz.prog 64 [.gp i 0] σ (fun v σ'=>v= .agg [.d (.int .i64 s.hd.kind),.d (.str s.hd.text),.d (.int .i64 ((s.hd.pos:Nat):Int))]∧σ'=σ):=by
 refine SM (by simp) ?_
 rw [Av]
 have hat:=hs.at
 unfold psA Zh at hb
 have hix:((L.length - s.r.length:Nat):Int) < ((L.map Tok.enc).length:Int):=by
  have:=(Aa.1 hat).1;omega
 (repeat' (first|refine Run.ct rfl ?_|((first|refine Run.reg mixed ?_|refine Run.AJ ?_|refine Run.Ad LJ (AM.le_refl _) ?_|(refine AQ rfl (fun h=>?_) (fun h=>?_)<;>try (cases h;done)))<;>try simp -implicitDefEqProofs only [hb,hat,go_sem])|(refine ⟨fun h=>?_,fun h=>?_⟩<;>first|(cases h;done)|try simp only [h])|fail))
theorem DK (hs:POk L s) (t:Str) (σ:AM) (hb:σ.blk i=some (psA L s)) (hc:(s.hd.text==t)=true):AP Tryz.prog 65 [.gp i 0,.d (.str t)] σ (fun v σ'=>v= .d (.bool true)∧σ'=σ.AL i (psA L s.adv)):=by
 refine JV (by simp) ?_
 rw [BP,oG hs]
 have hpk:=QU hs σ hb
 have hw:=BU (a:=L.length - s.r.length) (by have:=hs.idx.2;omega)
 unfold psA at hb
 (repeat' (first|refine Run.ct rfl ?_|((first|refine Run.reg mixed ?_|refine Run.AJ ?_|refine Run.Ad GO (AM.le_refl _) ?_|refine AH.det (hpk) ?_|(refine AQ rfl (fun h=>?_) (fun h=>?_)<;>try (cases h;done)))<;>try simp -implicitDefEqProofs only [J4,hc,hb,hw,go_sem])|(refine ⟨fun h=>?_,fun h=>?_⟩<;>first|(cases h;done)|try simp only [h])|fail))
theorem DJ (hs:POk L s) (t:Str) (σ:AM) (hb:σ.blk i=some (psA L s)) (hc:(s.hd.text==t)=false):AP Tryz.prog 65 [.gp i 0,.d (.str t)] σ (fun v σ'=>v= .d (.bool false)∧σ'=σ):=by
 refine JV (by simp) ?_
 rw [BP]
 have hpk:=QU hs σ hb
 (repeat' (first|refine Run.ct rfl ?_|((first|refine Run.reg mixed ?_|refine Run.AJ ?_|refine Run.Ad GO (AM.le_refl _) ?_|refine AH.det (hpk) ?_|(refine AQ rfl (fun h=>?_) (fun h=>?_)<;>try (cases h;done)))<;>try simp -implicitDefEqProofs only [J4,hc,go_sem])|(refine ⟨fun h=>?_,fun h=>?_⟩<;>first|(cases h;done)|try simp only [h])|fail))
theorem VM (hs:POk L s) (σ:AM) (hb:σ.blk i=some (psA L s)):AP Tryz.prog 68 [.gp i 0] σ (fun v σ'=>v= .tup []∧σ'=σ.AL i (psA L s.fail)):=by
 refine SK (by simp) ?_
 rw [Av]
 have hpk:=QU hs σ hb
 have hl:1≤L.length:=BD (Aq.2 hs.wf.ne) hs.suf.length_le
 have hlen:=hs.len
 have hw:IntKind.i64.wrap ((L.length:Int) - 1)=((L.length - 1:Nat):Int):=by rw [BF (by omega) (by omega)];omega
 have hfl:=fY hs.wf
 have hst:psA L s.fail=[.d (Zh L),.d (.int .i64 ((L.length - 1:Nat):Int)),.d (.bool true),.d (.int .i64 (((if s.f then s.p else s.hd.pos):Nat):Int))]:=by
  unfold psA;rw [hfl];rfl
 rw [hst]
 unfold psA Zh at hb
 cases hf:s.f with
 |true=>
  rw [hf] at hb
  (repeat' (first|refine Run.ct rfl ?_|((first|refine Run.reg mixed ?_|refine Run.AJ ?_|(refine AQ rfl (fun h=>?_) (fun h=>?_)<;>try (cases h;done)))<;>try simp -implicitDefEqProofs only [hb,hw,AG,go_sem])|(refine ⟨fun h=>?_,fun h=>?_⟩<;>first|(cases h;done)|try simp only [h])|fail))
  exact Run.fin HN rfl (fun _ _ h=>h) (AM.le_refl _) ⟨rfl,rfl⟩
 |false=>
  rw [hf] at hb
  (repeat' (first|refine Run.ct rfl ?_|((first|refine Run.reg mixed ?_|refine Run.AJ ?_|refine AH.det (hpk) ?_|(refine AQ rfl (fun h=>?_) (fun h=>?_)<;>try (cases h;done)))<;>try simp -implicitDefEqProofs only [hb,hw,AG,AO,go_sem])|(refine ⟨fun h=>?_,fun h=>?_⟩<;>first|(cases h;done)|try simp only [h])|fail))
  exact Run.fin HN rfl (fun _ _ h=>h) (AM.le_refl _) ⟨rfl,rfl⟩
theorem U0 (hs:POk L s) (t:Str) (ht:t≠[]) (σ:AM) (hb:σ.blk i=some (psA L s)):AP Tryz.prog 127 [.gp i 0,.d (.str t)] σ (fun v σ'=>v= .tup []∧σ'=σ.AL i (psA L ((PM.exp t ht).run s).2)):=by
 refine QJ (by simp) ?_
 rw [BP]
 cases hc:(s.hd.text==t) with
 |true=>
  have hr:((PM.exp t ht).run s).2=s.adv:=by
   show (if s.hd.text==t then ((),s.adv) else ((),s.fail)).2=_
   rw [if_pos hc]
  rw [hr]
  (repeat' (first|refine Run.ct rfl ?_|((first|refine Run.reg mixed ?_|refine Run.AJ ?_|(refine AH.upd (DK hs t σ hb hc) ?_)|(refine AQ rfl (fun h=>?_) (fun h=>?_)<;>try (cases h;done)))<;>try simp -implicitDefEqProofs only [go_sem])|(refine ⟨fun h=>?_,fun h=>?_⟩<;>first|(cases h;done)|try simp only [h])|fail))
  exact Run.fin GP rfl (fun _ _ h=>h) (AM.le_refl _) ⟨rfl,rfl⟩
 |false=>
  have hr:((PM.exp t ht).run s).2=s.fail:=by
   show (if s.hd.text==t then ((),s.adv) else ((),s.fail)).2=_
   rw [if_neg (by rw [hc];decide)]
  rw [hr]
  (repeat' (first|refine Run.ct rfl ?_|((first|refine Run.reg mixed ?_|refine Run.AJ ?_|(refine AH.upd (DJ hs t σ hb hc) ?_)|(refine AH.upd (VM hs σ hb) ?_)|(refine AQ rfl (fun h=>?_) (fun h=>?_)<;>try (cases h;done)))<;>try simp -implicitDefEqProofs only [go_sem])|(refine ⟨fun h=>?_,fun h=>?_⟩<;>first|(cases h;done)|try simp only [h])|fail))
  exact Run.fin GP rfl (fun _ _ h=>h) (AM.le_refl _) ⟨rfl,rfl⟩
theorem yY (hs:POk L s) (k:Int) (hk:k≠6) (σ:AM) (hb:σ.blk i=some (psA L s)):AP Tryz.prog 124 [.gp i 0,.d (.int .i64 k)] σ (fun v σ'=>v= .d (.str ((PM.take k hk).run s).1)∧σ'=σ.AL i (psA L ((PM.take k hk).run s).2)):=by
 refine SP (by simp) ?_
 rw [BP]
 have hpk:=QU hs σ hb
 cases hc:(s.hd.kind==k) with
 |true=>
  have hr:(PM.take k hk).run s=(s.hd.text,s.adv):=if_pos hc
  rw [hr,oG hs]
  have hw:=BU (a:=L.length - s.r.length) (by have:=hs.idx.2;omega)
  have hne:(s.hd.kind != k)=false:=by unfold bne;rw [hc];rfl
  unfold psA at hb
  (repeat' (first|refine Run.ct rfl ?_|((first|refine Run.reg mixed ?_|refine Run.AJ ?_|refine Run.Ad HO (AM.le_refl _) ?_|refine AH.det (hpk) ?_|(refine AQ rfl (fun h=>?_) (fun h=>?_)<;>try (cases h;done)))<;>try simp -implicitDefEqProofs only [hne,hb,hw,go_sem])|(refine ⟨fun h=>?_,fun h=>?_⟩<;>first|(cases h;done)|try simp only [h])|fail))
 |false=>
  have hr:(PM.take k hk).run s=([],s.fail):=if_neg (by simp only;rw [hc];decide)
  have hne:(s.hd.kind != k)=true:=by unfold bne;rw [hc];rfl
  rw [hr]
  (repeat' (first|refine Run.ct rfl ?_|((first|refine Run.reg mixed ?_|refine Run.AJ ?_|refine Run.Ad HO (AM.le_refl _) ?_|(refine AH.upd (VM hs σ hb) ?_)|refine AH.det (hpk) ?_|(refine AQ rfl (fun h=>?_) (fun h=>?_)<;>try (cases h;done)))<;>try simp -implicitDefEqProofs only [hne,go_sem])|(refine ⟨fun h=>?_,fun h=>?_⟩<;>first|(cases h;done)|try simp only [h])|fail))
end
def Xl (σ:AM):Prop:=∃te pe,σ.gt YX=some #[.iface te pe]
def PC {α:Type} (fid:FuncId) (args:List AV) (i:Nat) (L:List Tok) (n:Nat) (m:PM α) (enc:α→AV):Prop:=
 ∀(σ:AM) (s:PSt),Xl σ→POk L s→s.r.length≤n→σ.blk i=some (psA L s)→AP Tryz.prog fid args σ (fun v σ'=>v=enc (m.run s).1∧σ'=σ.AL i (psA L (m.run s).2))
theorem PC.mono {α:Type} {fid:FuncId} {args:List AV} {i:Nat} {L:List Tok} {n k:Nat} {m:PM α} {enc:α→AV} (h:PC fid args i L n m enc) (hk:k≤n):PC fid args i L k m enc:=fun σ s hg h1 h2 h3=>h σ s hg h1 (BD h2 hk) h3
theorem eX (i:Nat) (L:List Tok) (n:Nat) (k:Int) (hk:k≠6):PC 124 [.gp i 0,.d (.int .i64 k)] i L n (PM.take k hk) (fun x=>.d (.str x)):=fun σ s _ h1 _ h3=>yY h1 k hk σ h3
theorem QR (i:Nat) (L:List Tok) (n:Nat):PC 126 [.gp i 0] i L n Fj (fun x=>.d (.str x)):=fun σ s hg h1 h2 h3=>by
 refine SL (by simp) ?_
 rw [Av]
 (repeat' (first|refine Run.ct rfl ?_|((first|refine Run.reg mixed ?_|refine Run.AJ ?_|refine Run.Ad LI (AM.le_refl _) ?_|(refine AH.upd (eX i L n 1 (by decide) σ s hg h1 h2 h3) ?_)|(refine AQ rfl (fun h=>?_) (fun h=>?_)<;>try (cases h;done)))<;>try simp -implicitDefEqProofs only [go_sem])|(refine ⟨fun h=>?_,fun h=>?_⟩<;>first|(cases h;done)|try simp only [h])|fail))
 exact ⟨rfl,rfl⟩
theorem TA (i:Nat) (L:List Tok) (n:Nat):PC 172 [.gp i 0] i L n G8 (fun x=>.d (.str x)):=fun σ s hg h1 h2 h3=>by
 refine SG (by simp) ?_
 rw [Av]
 cases hc:(s.hd.text==[95]) with
 |true=>
  have hr:G8.run s=([],s.adv):=if_pos hc
  rw [hr]
  (repeat' (first|refine Run.ct rfl ?_|((first|refine Run.reg mixed ?_|refine Run.AJ ?_|refine Run.Ad HL (AM.le_refl _) ?_|(refine AH.upd (DK h1 _ σ h3 hc) ?_)|(refine AQ rfl (fun h=>?_) (fun h=>?_)<;>try (cases h;done)))<;>try simp -implicitDefEqProofs only [go_sem])|(refine ⟨fun h=>?_,fun h=>?_⟩<;>first|(cases h;done)|try simp only [h])|fail))
 |false=>
  have hr:G8.run s=Fj.run s:=if_neg (by rw [hc];decide)
  rw [hr]
  (repeat' (first|refine Run.ct rfl ?_|((first|refine Run.reg mixed ?_|refine Run.AJ ?_|refine Run.Ad HL (AM.le_refl _) ?_|(refine AH.upd (DJ h1 _ σ h3 hc) ?_)|(refine AH.upd (QR i L n σ s hg h1 h2 h3) ?_)|(refine AQ rfl (fun h=>?_) (fun h=>?_)<;>try (cases h;done)))<;>try simp -implicitDefEqProofs only [go_sem])|(refine ⟨fun h=>?_,fun h=>?_⟩<;>first|(cases h;done)|try simp only [h])|fail))
end Go.Ab
namespace Go.Ab
open Go.Proofs
variable {P:Program}
theorem VY {σ τ:AM} (h:σ.le τ) {j:Nat} (hj:σ.blk j=none) (cs:List AV):σ.le (τ.AL j cs):=
 ⟨fun i c hi=>by
   have:i≠j:=fun e=>by rw [e,hj] at hi;cases hi
   rw [AO,if_neg this];exact h.blk i c hi,h.tok,h.gt,h.bt⟩
theorem sY (σ:AM) (i:Nat) (cs:List AV):(σ.DI i).le (σ.AL i cs):=⟨fun j c hj=>by
 have:j≠i:=fun e=>by rw [e] at hj;simp [AM.DI] at hj
 rw [AO,if_neg this];simpa [AM.DI,this] using hj,fun _ h=>h,rfl,fun _ _ h=>h⟩
theorem Mz (σ:AM) (i:Nat):(σ.DI i).blk i=none:=by simp [AM.DI]
theorem vP {σ τ:AM} {i:Nat} {cs:List AV} (h:(σ.DI i).le τ) (hb:τ.blk i=some cs):(σ.AL i cs).le τ:=
 ⟨fun j c hj=>by
   rw [AO] at hj
   split at hj
   · rename_i e;subst e;cases hj;exact hb
   · rename_i e;exact h.blk j c (by simpa [AM.DI,e] using hj),h.tok,h.gt,h.bt⟩
theorem sC {σ σ1:AM} {e s:Nat} {v:AV} {rows:List (List DV)} (h:Pm σ e s v=some (rows,σ1)):σ1.blk=σ.blk:=by
 unfold Pm at h
 split at h
 · cases h;rfl
 · split at h
   · cases h;rfl
   · cases h
 · cases h
theorem EW.mono {σ σ' τ:AM} {e s:Nat} {rows:List (List DV)} {v:AV} (h:EW σ e s rows v τ) (hl:σ'.le σ):EW σ' e s rows v τ:=by
 obtain ⟨σ1,ha,hle⟩:=h.app
 exact ⟨⟨σ1,ha,AM.le_trans hl hle⟩,AM.le_trans hl h.le,h.plain,h.len,h.cell,h.Ay,h.BR,h.dv,h.cells⟩
theorem EW.l9 {σ τ:AM} {e s:Nat} {rows:List (List DV)} {v:AV} (h:EW σ e s rows v τ) {j:Nat} (hj:σ.blk j=none) (cs:List AV):EW σ e s rows v (τ.AL j cs):=by
 obtain ⟨σ1,ha,hle⟩:=h.app
 refine ⟨?_,VY h.le hj cs,h.plain,h.len,h.cell,h.Ay,h.BR,h.dv,h.cells⟩
 unfold Pm at ha ⊢
 split at ha
 · cases ha
   exact ⟨_,rfl,VY hle hj cs⟩
 · rename_i t e' s' rows'
   split at ha
   · rename_i hc
     cases ha
     exact ⟨(τ.AL j cs).FK t,if_pos hc,VY hle hj cs⟩
   · cases ha
 · cases ha
theorem EW.put {σ τ:AM} {e s i:Nat} {cs:List AV} {rows:List (List DV)} {v:AV} (h:EW (σ.DI i) e s rows v τ) (hb:τ.blk i=some cs):EW (σ.AL i cs) e s rows v τ:=by
 obtain ⟨σ1,ha,hle⟩:=h.app
 exact ⟨⟨σ1,ha,vP hle (by rw [sC ha];exact hb)⟩,vP h.le hb,h.plain,h.len,h.cell,h.Ay,h.BR,h.dv,h.cells⟩
theorem AP.ADE {f:FuncId} {args:List AV} {σ σ1:AM} {e s:Nat} {rows:List (List DV)} (h:AP P f args σ (fun v σ'=>EW σ1 e s rows v σ')):AP P f args σ (fun v σ'=>v= .d (.sl rows)∧σ'=σ1):=
 fun base g Pr w0 w vs hr hv=>(h base g Pr w0 w vs hr hv).mono fun _ _ ⟨v,_,g',_,a,b,c,d,e,q⟩=>⟨v,.d (.sl rows),g',σ1,a,by have:=b.plain;rwa [q.plain] at this,c.less q.le,d,e,rfl,rfl⟩
structure LS (σ:AM) (i:Nat) (L:List Tok) (s:PSt) (e z:Nat) (rows:List (List DV)) (v:AV) (τ:AM):Prop where
 own:EW (σ.DI i) e z rows v τ
 blk:τ.blk i=some (psA L s)
theorem LS.step {σ τ:AM} {i:Nat} {L:List Tok} {s:PSt} {e z:Nat} {rows:List (List DV)} {v:AV} (h:LS σ i L s e z rows v τ) (s':PSt):LS σ i L s' e z rows v (τ.AL i (psA L s')):=
 ⟨h.own.l9 (Mz σ i) _,by rw [AO,if_pos rfl]⟩
theorem LS.fin {σ τ:AM} {i:Nat} {L:List Tok} {s:PSt} {e z:Nat} {rows:List (List DV)} {v:AV} (h:LS σ i L s e z rows v τ):EW (σ.AL i (psA L s)) e z rows v τ:=h.own.put h.blk
theorem LS.le {σ τ:AM} {i:Nat} {L:List Tok} {s:PSt} {e z:Nat} {rows:List (List DV)} {v:AV} (h:LS σ i L s e z rows v τ):(σ.AL i (psA L s)).le τ:=h.fin.le
theorem LS.of {σ τ:AM} {i:Nat} {L:List Tok} {s:PSt} {e z:Nat} {rows:List (List DV)} {v:AV} (h:EW (σ.AL i (psA L s)) e z rows v τ):LS σ i L s e z rows v τ:=
 ⟨h.mono (sY σ i _),h.le.blk i _ (by rw [AO,if_pos rfl])⟩
theorem LS.lit {σ:AM} {i:Nat} {L:List Tok} {s:PSt} {e z t:Nat} {rows:List (List DV)} (ht:σ.tok t=false):LS σ i L s e z rows (.own t e z rows) ((σ.AL i (psA L s)).D7 t):=
 ⟨EW.own (sY σ i _) (σ':=σ) ⟨fun j c hj=>by
   have:j≠i:=fun e=>by rw [e] at hj;simp [AM.DI] at hj
   simpa [AM.DI,this] using hj,fun _ h=>h,rfl,fun _ _ h=>h⟩ ht,by rw [GJ,AO,if_pos rfl]⟩
theorem LS.gt {σ τ:AM} {i:Nat} {L:List Tok} {s:PSt} {e z:Nat} {rows:List (List DV)} {v:AV} (h:LS σ i L s e z rows v τ) (hg:Xl σ):Xl τ:=by
 obtain ⟨te,pe,he⟩:=hg
 refine ⟨te,pe,?_⟩
 rw [← h.own.le.gt];exact he
theorem LS.xV {σ:AM} {i:Nat} {L:List Tok} {s:PSt} {e z t:Nat} {rows:List (List DV)} (ht:(σ.AL i (psA L s)).tok t=false):LS σ i L s e z rows (.own t e z rows) ((σ.AL i (psA L s)).D7 t):=LS.lit (σ:=σ) ht
theorem LS.xW {σ:AM} {i:Nat} {L:List Tok} {s:PSt} {e z t:Nat} {rows:List (List DV)} (ht:(σ.AL i (psA L s)).tok t=false) (s':PSt):LS σ i L s' e z rows (.own t e z rows) (((σ.AL i (psA L s)).D7 t).AL i (psA L s')):=(LS.xV ht).step s'
theorem LS.tok {σ τ:AM} {i:Nat} {L:List Tok} {s:PSt} {e z:Nat} {rows:List (List DV)} {v:AV} (h:LS σ i L s e z rows v τ) {F:Fm} {Lm0:Lm} {K:CV} {d:Option Nat} {bytes:Nat} {x:AV} {srows:List (List DV)} (h2:x.rows=some srows) (h3:∀r∈srows,r.length=z) (h4:rows.length+srows.length≤1000000000) (hb:bytes≤10000)
 (hk:∀v' τ',LS σ i L s e z (rows++srows) v' τ'→K (Au d v' F) Lm0 τ'):Kf e z bytes v x d K F Lm0 τ:=
 Kf.own h.own h2 h3 h4 hb (fun v' τ' ho hbk=>hk v' τ' ⟨ho,by rw [hbk];exact h.blk⟩)
def PCo {α:Type} (fid:FuncId) (args:List AV) (i:Nat) (L:List Tok) (n:Nat) (m:PM (List α)) (e z:Nat) (enc:α→List DV):Prop:=
 ∀(σ:AM) (s:PSt),Xl σ→POk L s→s.r.length≤n→σ.blk i=some (psA L s)→AP Tryz.prog fid args σ (fun v σ'=>EW (σ.AL i (psA L (m.run s).2)) e z ((m.run s).1.map enc) v σ')
theorem PCo.pc {α:Type} {fid:FuncId} {args:List AV} {i:Nat} {L:List Tok} {n:Nat} {m:PM (List α)} {e z:Nat} {enc:α→List DV} (h:PCo fid args i L n m e z enc):PC fid args i L n m (fun l=>.d (.sl (l.map enc))):=fun σ s hg h1 h2 h3=>(h σ s hg h1 h2 h3).ADE
theorem PCo.mono {α:Type} {fid:FuncId} {args:List AV} {i:Nat} {L:List Tok} {n k:Nat} {m:PM (List α)} {e z:Nat} {enc:α→List DV} (h:PCo fid args i L n m e z enc) (hk:k≤n):PCo fid args i L k m e z enc:=fun σ s hg h1 h2 h3=>h σ s hg h1 (BD h2 hk) h3
theorem PG {α:Type} {read:PM α} {t:Str} {ht:t≠[]} {n:Nat} {l:List α} {s:PSt} (hc:(s.hd.text==t)=true):(E3 read t ht (n+1) l).run s=(E3 read t ht n (l++[(read.run s.adv).1])).run (read.run s.adv).2:=if_pos hc
theorem PF {α:Type} {read:PM α} {t:Str} {ht:t≠[]} {n:Nat} {l:List α} {s:PSt} (hc:(s.hd.text==t)=false):(E3 read t ht (n+1) l).run s=(l,s):=if_neg (by rw [hc];decide)
theorem Yi {α:Type} {read:PM α} {t:Str} {ht:t≠[]}:∀(n:Nat) (l:List α) (s:PSt),WF s.r→((E3 read t ht n l).run s).1.length+((E3 read t ht n l).run s).2.r.length≤l.length+s.r.length
 |0,l,s,_=>A9 _
 |n+1,l,s,hw=>by
  cases hc:s.hd.text==t with
  |false=>rw [PF hc];exact A9 _
  |true=>
   rw [PG hc]
   have hk:s.hd.text≠[]:=by rw [beq_iff_eq] at hc;rw [hc];exact ht
   have hw1:=(Sx hw (.inr hk)).1
   have h1:=read.le hw1
   have h2:=BX hw
   have h3:=Yi (read:=read) (t:=t) (ht:=ht) n (l++[(read.run s.adv).1]) (read.run s.adv).2 (read.sf _ hw1).1
   simp only [AA,AB,AE] at h3
   omega
theorem qD {α:Type} {read:PM α} {t:Str} {ht:t≠[]} {s:PSt} (hw:WF s.r):((items read t ht).run s).1.length≤1+s.r.length:=by
 have h1:=read.le hw
 have h3:=Yi (read:=read) (t:=t) (ht:=ht) BK [(read.run s).1] (read.run s).2 (read.sf _ hw).1
 simp only [AB,AE] at h3
 show ((E3 read t ht BK [(read.run s).1]).run (read.run s).2).1.length≤_
 omega
theorem QP {α:Type} {read:PM α} {s:PSt} (hw:WF s.r):((listed read).run s).1.length≤1+s.r.length:=qD (read:=read) (t:=[44]) (ht:=by decide) hw
theorem UZ {α:Type} {read:PM α} {s:PSt} (hw:WF s.r):((closed read).run s).1.length≤1+s.r.length:=by
 cases hc:s.hd.text==[41] with
 |true=>
  have:(closed read).run s=([],s.adv):=if_pos hc
  rw [this];simp
 |false=>
  have:(closed read).run s=(listed read).run s:=if_neg (by rw [hc];decide)
  rw [this];exact QP hw
end Go.Ab
namespace Go.Ab
open Go.Proofs
theorem XP (i:Nat) (L:List Tok) (n:Nat) {read:PM Str} {fr:FuncId} (hb:Aw Tryz.prog fr=true) (hr:PC fr [.gp i 0] i L n read (fun x:Str=>.d (.str x))) (t:Str) (ht:t≠[]):
 PCo 182 [.gp i 0,.d (.str t),.fn fr [.gp i 0] []] i L n (items read t ht) 9 1 B0:=by
 intro σ s hg h1 h2 h3
 refine RF (by simp) ?_
 rw [Hg]
 have hc:=hr σ s hg h1 h2 h3
 have h1':=h1.run read
 have hle:=read.le h1.wf
 have hit:(items read t ht).run s=(E3 read t ht BK [(read.run s).1]).run (read.run s).2:=rfl
 rw [hit]
 clear hit
 generalize read.run s=y at hc h1' hle ⊢
 obtain ⟨x,s1⟩:=y
 simp only at hc h1' hle ⊢
 skip
 (repeat' (first|refine Run.ct rfl ?_|((first|refine Run.reg mixed ?_|refine Run.AJ ?_|(refine ⟨fr,[.gp i 0],[],rfl,hb,AH.upd hc ?_ (by simp [JY])⟩)|(refine I3.own rfl (by decide) (fun tk htk=>?_))|(refine AQ rfl (fun h=>?_) (fun h=>?_)<;>try (cases h;done)))<;>try simp -implicitDefEqProofs only [go_sem])|(refine ⟨fun h=>?_,fun h=>?_⟩<;>first|(cases h;done)|try simp only [h])|fail))
 refine Run.Ba ?_
 have hf0:=Fb
 have hl0:=h1.suf.length_le
 have hl1:=h1.len
 refine Run.Bd ((fun (a0:AV) (a1:AV) (a2:AV)=>fun (y:PSt×List Str×Nat×AV×AM)=>put 0 a0 (put 1 a1 (put 2 a2 (put 7 (y.2.2.2.1) U)))) _ _ _) (fun _=>E) (fun y=>y.2.2.2.2) (fun y=>POk L y.1∧y.1.r.length≤n∧y.1.r.length≤y.2.2.1∧y.2.1.length+y.1.r.length≤17001∧LS σ i L y.1 9 1 (y.2.1.map B0) y.2.2.2.1 y.2.2.2.2∧(E3 read t ht y.2.2.1 y.2.1).run y.1=(E3 read t ht BK [x]).run s1) (fun y=>y.1.r.length) ?_ (s1,[x],BK,.own tk 9 1 _,_) ⟨h1',by simp only;omega,by simp only;omega,by simp only [AB,AE];omega,?_,rfl⟩
 rotate_left
 · simp only [AF,AI,B0]
   exact LS.lit htk
 rintro ⟨s2,l,q,v,τ⟩ ⟨g1,g2,g3,g4,g5,g6⟩ ih
 simp only at g1 g2 g3 g4 g5 g6
 obtain ⟨q,rfl⟩:∃m,q=m+1:=⟨q - 1,by have:=Aq.2 g1.wf.ne;omega⟩
 cases hcc:(s2.hd.text==t) with
 |false=>
  rw [PF hcc] at g6
  rw [← g6]
  (repeat' (first|refine Run.ct rfl ?_|((first|refine Run.reg mixed ?_|refine Run.AJ ?_|(refine AH.upd (DJ g1 t τ g5.blk hcc) ?_)|(refine Run.GR Jw (AM.le_refl _) ?_)|(refine AQ rfl (fun h=>?_) (fun h=>?_)<;>try (cases h;done)))<;>try simp -implicitDefEqProofs only [g5.own.BR,g5.own.Ay,if_true,go_sem])|(refine ⟨fun h=>?_,fun h=>?_⟩<;>first|(cases h;done)|try simp only [h])|fail))
  exact g5.fin
 |true=>
  rw [PG hcc] at g6
  have g1a:=g1.adv ht hcc
  have hal:=BX g1.wf
  have hc:=hr (τ.AL i (psA L s2.adv)) s2.adv (g5.gt hg) g1a (by omega) (by rw [AO,if_pos rfl]:(τ.AL i (psA L s2.adv)).blk i=_)
  rw [A4] at hc
  have h1':=g1a.run read
  have hle:=read.le g1a.wf
  have hst:=g5.step (read.run s2.adv).2
  generalize read.run s2.adv=y at hc h1' hle g6 hst
  obtain ⟨x,s3⟩:=y
  simp only at hc h1' hle g6 hst
  skip
  (repeat' (first|refine Run.ct rfl ?_|((first|refine Run.reg mixed ?_|refine Run.AJ ?_|(refine AH.upd (DK g1 t τ g5.blk hcc) ?_)|(refine ⟨fr,[.gp i 0],[],rfl,hb,AH.upd hc ?_ (by simp [JY])⟩)|(refine hst.tok rfl (by simp) (by simp;omega) (by decide) (fun v2 τ2 ho=>?_))|(refine AQ rfl (fun h=>?_) (fun h=>?_)<;>try (cases h;done)))<;>try simp -implicitDefEqProofs only [g5.own.BR,go_sem])|(refine ⟨fun h=>?_,fun h=>?_⟩<;>first|(cases h;done)|try simp only [h])|fail))
  refine ih (s3,l++[x],q,v2,τ2) ⟨h1',by simp only;omega,by simp only;omega,by simp only [AA,AB,AE];omega,?_,g6⟩ (by simp only;omega)
  simp only [Bp,AF,AI,B0]
  exact ho
theorem RQ (i:Nat) (L:List Tok) (n:Nat) {read:PM TE} {fr:FuncId} (hb:Aw Tryz.prog fr=true) (hr:PC fr [.gp i 0] i L n read teA) (t:Str) (ht:t≠[]):
 PCo 196 [.gp i 0,.d (.str t),.fn fr [.gp i 0] []] i L n (items read t ht) 75 3 TE.enc:=by
 intro σ s hg h1 h2 h3
 refine M6 (by simp) ?_
 rw [Hg]
 have hc:=hr σ s hg h1 h2 h3
 have h1':=h1.run read
 have hle:=read.le h1.wf
 have hit:(items read t ht).run s=(E3 read t ht BK [(read.run s).1]).run (read.run s).2:=rfl
 rw [hit]
 clear hit
 generalize read.run s=y at hc h1' hle ⊢
 obtain ⟨x,s1⟩:=y
 simp only at hc h1' hle ⊢
 obtain ⟨k0,n0,l0⟩:=x
 simp only [teA,TE.A2,AF,AI] at hc
 (repeat' (first|refine Run.ct rfl ?_|((first|refine Run.reg mixed ?_|refine Run.AJ ?_|(refine ⟨fr,[.gp i 0],[],rfl,hb,AH.upd hc ?_ (by simp [JY])⟩)|(refine I3.own rfl (by decide) (fun tk htk=>?_))|(refine AQ rfl (fun h=>?_) (fun h=>?_)<;>try (cases h;done)))<;>try simp -implicitDefEqProofs only [go_sem])|(refine ⟨fun h=>?_,fun h=>?_⟩<;>first|(cases h;done)|try simp only [h])|fail))
 refine Run.Ba ?_
 have hf0:=Fb
 have hl0:=h1.suf.length_le
 have hl1:=h1.len
 refine Run.Bd ((fun (a0:AV) (a1:AV) (a2:AV)=>fun (y:PSt×List TE×Nat×AV×AM)=>put 0 a0 (put 1 a1 (put 2 a2 (put 7 (y.2.2.2.1) U)))) _ _ _) (fun _=>E) (fun y=>y.2.2.2.2) (fun y=>POk L y.1∧y.1.r.length≤n∧y.1.r.length≤y.2.2.1∧y.2.1.length+y.1.r.length≤17001∧LS σ i L y.1 75 3 (y.2.1.map TE.enc) y.2.2.2.1 y.2.2.2.2∧(E3 read t ht y.2.2.1 y.2.1).run y.1=(E3 read t ht BK [(TE.mk k0 n0 l0)]).run s1) (fun y=>y.1.r.length) ?_ (s1,[(TE.mk k0 n0 l0)],BK,.own tk 75 3 _,_) ⟨h1',by simp only;omega,by simp only;omega,by simp only [AB,AE];omega,?_,rfl⟩
 rotate_left
 · simp only [AF,AI,TE.A2]
   exact LS.lit htk
 rintro ⟨s2,l,q,v,τ⟩ ⟨g1,g2,g3,g4,g5,g6⟩ ih
 simp only at g1 g2 g3 g4 g5 g6
 obtain ⟨q,rfl⟩:∃m,q=m+1:=⟨q - 1,by have:=Aq.2 g1.wf.ne;omega⟩
 cases hcc:(s2.hd.text==t) with
 |false=>
  rw [PF hcc] at g6
  rw [← g6]
  (repeat' (first|refine Run.ct rfl ?_|((first|refine Run.reg mixed ?_|refine Run.AJ ?_|(refine AH.upd (DJ g1 t τ g5.blk hcc) ?_)|(refine Run.GR Gt (AM.le_refl _) ?_)|(refine AQ rfl (fun h=>?_) (fun h=>?_)<;>try (cases h;done)))<;>try simp -implicitDefEqProofs only [g5.own.BR,g5.own.Ay,if_true,go_sem])|(refine ⟨fun h=>?_,fun h=>?_⟩<;>first|(cases h;done)|try simp only [h])|fail))
  exact g5.fin
 |true=>
  rw [PG hcc] at g6
  have g1a:=g1.adv ht hcc
  have hal:=BX g1.wf
  have hc:=hr (τ.AL i (psA L s2.adv)) s2.adv (g5.gt hg) g1a (by omega) (by rw [AO,if_pos rfl]:(τ.AL i (psA L s2.adv)).blk i=_)
  rw [A4] at hc
  have h1':=g1a.run read
  have hle:=read.le g1a.wf
  have hst:=g5.step (read.run s2.adv).2
  generalize read.run s2.adv=y at hc h1' hle g6 hst
  obtain ⟨x,s3⟩:=y
  simp only at hc h1' hle g6 hst
  obtain ⟨k0,n0,l0⟩:=x
  simp only [teA,TE.A2,AF,AI] at hc
  (repeat' (first|refine Run.ct rfl ?_|((first|refine Run.reg mixed ?_|refine Run.AJ ?_|(refine AH.upd (DK g1 t τ g5.blk hcc) ?_)|(refine ⟨fr,[.gp i 0],[],rfl,hb,AH.upd hc ?_ (by simp [JY])⟩)|(refine hst.tok rfl (by simp) (by simp;omega) (by decide) (fun v2 τ2 ho=>?_))|(refine AQ rfl (fun h=>?_) (fun h=>?_)<;>try (cases h;done)))<;>try simp -implicitDefEqProofs only [g5.own.BR,go_sem])|(refine ⟨fun h=>?_,fun h=>?_⟩<;>first|(cases h;done)|try simp only [h])|fail))
  refine ih (s3,l++[(TE.mk k0 n0 l0)],q,v2,τ2) ⟨h1',by simp only;omega,by simp only;omega,by simp only [AA,AB,AE];omega,?_,g6⟩ (by simp only;omega)
  simp only [Bp,AF,AI,TE.A2]
  exact ho
theorem SY (i:Nat) (L:List Tok) (n:Nat) {read:PM CE} {fr:FuncId} (hb:Aw Tryz.prog fr=true) (hr:PC fr [.gp i 0] i L n read ceA) (t:Str) (ht:t≠[]):
 PCo 128 [.gp i 0,.d (.str t),.fn fr [.gp i 0] []] i L n (items read t ht) 72 2 CE.enc:=by
 intro σ s hg h1 h2 h3
 refine NK (by simp) ?_
 rw [Hg]
 have hc:=hr σ s hg h1 h2 h3
 have h1':=h1.run read
 have hle:=read.le h1.wf
 have hit:(items read t ht).run s=(E3 read t ht BK [(read.run s).1]).run (read.run s).2:=rfl
 rw [hit]
 clear hit
 generalize read.run s=y at hc h1' hle ⊢
 obtain ⟨x,s1⟩:=y
 simp only at hc h1' hle ⊢
 obtain ⟨n0,l0⟩:=x
 simp only [ceA,CE.enc,AF,AI] at hc
 (repeat' (first|refine Run.ct rfl ?_|((first|refine Run.reg mixed ?_|refine Run.AJ ?_|(refine ⟨fr,[.gp i 0],[],rfl,hb,AH.upd hc ?_ (by simp [JY])⟩)|(refine I3.own rfl (by decide) (fun tk htk=>?_))|(refine AQ rfl (fun h=>?_) (fun h=>?_)<;>try (cases h;done)))<;>try simp -implicitDefEqProofs only [go_sem])|(refine ⟨fun h=>?_,fun h=>?_⟩<;>first|(cases h;done)|try simp only [h])|fail))
 refine Run.Ba ?_
 have hf0:=Fb
 have hl0:=h1.suf.length_le
 have hl1:=h1.len
 refine Run.Bd ((fun (a0:AV) (a1:AV) (a2:AV)=>fun (y:PSt×List CE×Nat×AV×AM)=>put 0 a0 (put 1 a1 (put 2 a2 (put 7 (y.2.2.2.1) U)))) _ _ _) (fun _=>E) (fun y=>y.2.2.2.2) (fun y=>POk L y.1∧y.1.r.length≤n∧y.1.r.length≤y.2.2.1∧y.2.1.length+y.1.r.length≤17001∧LS σ i L y.1 72 2 (y.2.1.map CE.enc) y.2.2.2.1 y.2.2.2.2∧(E3 read t ht y.2.2.1 y.2.1).run y.1=(E3 read t ht BK [(CE.mk n0 l0)]).run s1) (fun y=>y.1.r.length) ?_ (s1,[(CE.mk n0 l0)],BK,.own tk 72 2 _,_) ⟨h1',by simp only;omega,by simp only;omega,by simp only [AB,AE];omega,?_,rfl⟩
 rotate_left
 · simp only [AF,AI,CE.enc]
   exact LS.lit htk
 rintro ⟨s2,l,q,v,τ⟩ ⟨g1,g2,g3,g4,g5,g6⟩ ih
 simp only at g1 g2 g3 g4 g5 g6
 obtain ⟨q,rfl⟩:∃m,q=m+1:=⟨q - 1,by have:=Aq.2 g1.wf.ne;omega⟩
 cases hcc:(s2.hd.text==t) with
 |false=>
  rw [PF hcc] at g6
  rw [← g6]
  (repeat' (first|refine Run.ct rfl ?_|((first|refine Run.reg mixed ?_|refine Run.AJ ?_|(refine AH.upd (DJ g1 t τ g5.blk hcc) ?_)|(refine Run.GR HJ (AM.le_refl _) ?_)|(refine AQ rfl (fun h=>?_) (fun h=>?_)<;>try (cases h;done)))<;>try simp -implicitDefEqProofs only [g5.own.BR,g5.own.Ay,if_true,go_sem])|(refine ⟨fun h=>?_,fun h=>?_⟩<;>first|(cases h;done)|try simp only [h])|fail))
  exact g5.fin
 |true=>
  rw [PG hcc] at g6
  have g1a:=g1.adv ht hcc
  have hal:=BX g1.wf
  have hc:=hr (τ.AL i (psA L s2.adv)) s2.adv (g5.gt hg) g1a (by omega) (by rw [AO,if_pos rfl]:(τ.AL i (psA L s2.adv)).blk i=_)
  rw [A4] at hc
  have h1':=g1a.run read
  have hle:=read.le g1a.wf
  have hst:=g5.step (read.run s2.adv).2
  generalize read.run s2.adv=y at hc h1' hle g6 hst
  obtain ⟨x,s3⟩:=y
  simp only at hc h1' hle g6 hst
  obtain ⟨n0,l0⟩:=x
  simp only [ceA,CE.enc,AF,AI] at hc
  (repeat' (first|refine Run.ct rfl ?_|((first|refine Run.reg mixed ?_|refine Run.AJ ?_|(refine AH.upd (DK g1 t τ g5.blk hcc) ?_)|(refine ⟨fr,[.gp i 0],[],rfl,hb,AH.upd hc ?_ (by simp [JY])⟩)|(refine hst.tok rfl (by simp) (by simp;omega) (by decide) (fun v2 τ2 ho=>?_))|(refine AQ rfl (fun h=>?_) (fun h=>?_)<;>try (cases h;done)))<;>try simp -implicitDefEqProofs only [g5.own.BR,go_sem])|(refine ⟨fun h=>?_,fun h=>?_⟩<;>first|(cases h;done)|try simp only [h])|fail))
  refine ih (s3,l++[(CE.mk n0 l0)],q,v2,τ2) ⟨h1',by simp only;omega,by simp only;omega,by simp only [AA,AB,AE];omega,?_,g6⟩ (by simp only;omega)
  simp only [Bp,AF,AI,CE.enc]
  exact ho
theorem VT (i:Nat) (L:List Tok) (n:Nat) {read:PM Ex} {fr:FuncId} (hb:Aw Tryz.prog fr=true) (hr:PC fr [.gp i 0] i L n read exA) (t:Str) (ht:t≠[]):
 PCo 216 [.gp i 0,.d (.str t),.fn fr [.gp i 0] []] i L n (items read t ht) 44 6 Ex.enc:=by
 intro σ s hg h1 h2 h3
 refine Oy (by simp) ?_
 rw [Hg]
 have hc:=hr σ s hg h1 h2 h3
 have h1':=h1.run read
 have hle:=read.le h1.wf
 have hit:(items read t ht).run s=(E3 read t ht BK [(read.run s).1]).run (read.run s).2:=rfl
 rw [hit]
 clear hit
 generalize read.run s=y at hc h1' hle ⊢
 obtain ⟨x,s1⟩:=y
 simp only at hc h1' hle ⊢
 obtain ⟨o0,n0,u0,ns0,ks0,al0⟩:=x
 simp only [exA,Ex.A2,AF,AI] at hc
 (repeat' (first|refine Run.ct rfl ?_|((first|refine Run.reg mixed ?_|refine Run.AJ ?_|(refine ⟨fr,[.gp i 0],[],rfl,hb,AH.upd hc ?_ (by simp [JY])⟩)|(refine I3.own rfl (by decide) (fun tk htk=>?_))|(refine AQ rfl (fun h=>?_) (fun h=>?_)<;>try (cases h;done)))<;>try simp -implicitDefEqProofs only [go_sem])|(refine ⟨fun h=>?_,fun h=>?_⟩<;>first|(cases h;done)|try simp only [h])|fail))
 refine Run.Ba ?_
 have hf0:=Fb
 have hl0:=h1.suf.length_le
 have hl1:=h1.len
 refine Run.Bd ((fun (a0:AV) (a1:AV) (a2:AV)=>fun (y:PSt×List Ex×Nat×AV×AM)=>put 0 a0 (put 1 a1 (put 2 a2 (put 7 (y.2.2.2.1) U)))) _ _ _) (fun _=>E) (fun y=>y.2.2.2.2) (fun y=>POk L y.1∧y.1.r.length≤n∧y.1.r.length≤y.2.2.1∧y.2.1.length+y.1.r.length≤17001∧LS σ i L y.1 44 6 (y.2.1.map Ex.enc) y.2.2.2.1 y.2.2.2.2∧(E3 read t ht y.2.2.1 y.2.1).run y.1=(E3 read t ht BK [(Ex.mk o0 n0 u0 ns0 ks0 al0)]).run s1) (fun y=>y.1.r.length) ?_ (s1,[(Ex.mk o0 n0 u0 ns0 ks0 al0)],BK,.own tk 44 6 _,_) ⟨h1',by simp only;omega,by simp only;omega,by simp only [AB,AE];omega,?_,rfl⟩
 rotate_left
 · simp only [AF,AI,Ex.A2]
   exact LS.lit htk
 rintro ⟨s2,l,q,v,τ⟩ ⟨g1,g2,g3,g4,g5,g6⟩ ih
 simp only at g1 g2 g3 g4 g5 g6
 obtain ⟨q,rfl⟩:∃m,q=m+1:=⟨q - 1,by have:=Aq.2 g1.wf.ne;omega⟩
 cases hcc:(s2.hd.text==t) with
 |false=>
  rw [PF hcc] at g6
  rw [← g6]
  (repeat' (first|refine Run.ct rfl ?_|((first|refine Run.reg mixed ?_|refine Run.AJ ?_|(refine AH.upd (DJ g1 t τ g5.blk hcc) ?_)|(refine Run.GR Ib (AM.le_refl _) ?_)|(refine AQ rfl (fun h=>?_) (fun h=>?_)<;>try (cases h;done)))<;>try simp -implicitDefEqProofs only [g5.own.BR,g5.own.Ay,if_true,go_sem])|(refine ⟨fun h=>?_,fun h=>?_⟩<;>first|(cases h;done)|try simp only [h])|fail))
  exact g5.fin
 |true=>
  rw [PG hcc] at g6
  have g1a:=g1.adv ht hcc
  have hal:=BX g1.wf
  have hc:=hr (τ.AL i (psA L s2.adv)) s2.adv (g5.gt hg) g1a (by omega) (by rw [AO,if_pos rfl]:(τ.AL i (psA L s2.adv)).blk i=_)
  rw [A4] at hc
  have h1':=g1a.run read
  have hle:=read.le g1a.wf
  have hst:=g5.step (read.run s2.adv).2
  generalize read.run s2.adv=y at hc h1' hle g6 hst
  obtain ⟨x,s3⟩:=y
  simp only at hc h1' hle g6 hst
  obtain ⟨o0,n0,u0,ns0,ks0,al0⟩:=x
  simp only [exA,Ex.A2,AF,AI] at hc
  (repeat' (first|refine Run.ct rfl ?_|((first|refine Run.reg mixed ?_|refine Run.AJ ?_|(refine AH.upd (DK g1 t τ g5.blk hcc) ?_)|(refine ⟨fr,[.gp i 0],[],rfl,hb,AH.upd hc ?_ (by simp [JY])⟩)|(refine hst.tok rfl (by simp) (by simp;omega) (by decide) (fun v2 τ2 ho=>?_))|(refine AQ rfl (fun h=>?_) (fun h=>?_)<;>try (cases h;done)))<;>try simp -implicitDefEqProofs only [g5.own.BR,go_sem])|(refine ⟨fun h=>?_,fun h=>?_⟩<;>first|(cases h;done)|try simp only [h])|fail))
  refine ih (s3,l++[(Ex.mk o0 n0 u0 ns0 ks0 al0)],q,v2,τ2) ⟨h1',by simp only;omega,by simp only;omega,by simp only [AA,AB,AE];omega,?_,g6⟩ (by simp only;omega)
  simp only [Bp,AF,AI,Ex.A2]
  exact ho
theorem WD (i:Nat) (L:List Tok) (n:Nat) {read:PM Al} {fr:FuncId} (hb:Aw Tryz.prog fr=true) (hr:PC fr [.gp i 0] i L n read alA) (t:Str) (ht:t≠[]):
 PCo 170 [.gp i 0,.d (.str t),.fn fr [.gp i 0] []] i L n (items read t ht) 112 8 Al.enc:=by
 intro σ s hg h1 h2 h3
 refine QE (by simp) ?_
 rw [Hg]
 have hc:=hr σ s hg h1 h2 h3
 have h1':=h1.run read
 have hle:=read.le h1.wf
 have hit:(items read t ht).run s=(E3 read t ht BK [(read.run s).1]).run (read.run s).2:=rfl
 rw [hit]
 clear hit
 generalize read.run s=y at hc h1' hle ⊢
 obtain ⟨x,s1⟩:=y
 simp only at hc h1' hle ⊢
 obtain ⟨c0,vs0,⟨o0,n0,u0,ns0,ks0,al0⟩⟩:=x
 simp only [alA,Al.A2,AF,AI] at hc
 (repeat' (first|refine Run.ct rfl ?_|((first|refine Run.reg mixed ?_|refine Run.AJ ?_|(refine ⟨fr,[.gp i 0],[],rfl,hb,AH.upd hc ?_ (by simp [JY])⟩)|(refine I3.own rfl (by decide) (fun tk htk=>?_))|(refine AQ rfl (fun h=>?_) (fun h=>?_)<;>try (cases h;done)))<;>try simp -implicitDefEqProofs only [go_sem])|(refine ⟨fun h=>?_,fun h=>?_⟩<;>first|(cases h;done)|try simp only [h])|fail))
 refine Run.Ba ?_
 have hf0:=Fb
 have hl0:=h1.suf.length_le
 have hl1:=h1.len
 refine Run.Bd ((fun (a0:AV) (a1:AV) (a2:AV)=>fun (y:PSt×List Al×Nat×AV×AM)=>put 0 a0 (put 1 a1 (put 2 a2 (put 7 (y.2.2.2.1) U)))) _ _ _) (fun _=>E) (fun y=>y.2.2.2.2) (fun y=>POk L y.1∧y.1.r.length≤n∧y.1.r.length≤y.2.2.1∧y.2.1.length+y.1.r.length≤17001∧LS σ i L y.1 112 8 (y.2.1.map Al.enc) y.2.2.2.1 y.2.2.2.2∧(E3 read t ht y.2.2.1 y.2.1).run y.1=(E3 read t ht BK [(Al.mk c0 vs0 (.mk o0 n0 u0 ns0 ks0 al0))]).run s1) (fun y=>y.1.r.length) ?_ (s1,[(Al.mk c0 vs0 (.mk o0 n0 u0 ns0 ks0 al0))],BK,.own tk 112 8 _,_) ⟨h1',by simp only;omega,by simp only;omega,by simp only [AB,AE];omega,?_,rfl⟩
 rotate_left
 · simp only [AF,AI,Al.A2]
   exact LS.lit htk
 rintro ⟨s2,l,q,v,τ⟩ ⟨g1,g2,g3,g4,g5,g6⟩ ih
 simp only at g1 g2 g3 g4 g5 g6
 obtain ⟨q,rfl⟩:∃m,q=m+1:=⟨q - 1,by have:=Aq.2 g1.wf.ne;omega⟩
 cases hcc:(s2.hd.text==t) with
 |false=>
  rw [PF hcc] at g6
  rw [← g6]
  (repeat' (first|refine Run.ct rfl ?_|((first|refine Run.reg mixed ?_|refine Run.AJ ?_|(refine AH.upd (DJ g1 t τ g5.blk hcc) ?_)|(refine Run.GR JO (AM.le_refl _) ?_)|(refine AQ rfl (fun h=>?_) (fun h=>?_)<;>try (cases h;done)))<;>try simp -implicitDefEqProofs only [g5.own.BR,g5.own.Ay,if_true,go_sem])|(refine ⟨fun h=>?_,fun h=>?_⟩<;>first|(cases h;done)|try simp only [h])|fail))
  exact g5.fin
 |true=>
  rw [PG hcc] at g6
  have g1a:=g1.adv ht hcc
  have hal:=BX g1.wf
  have hc:=hr (τ.AL i (psA L s2.adv)) s2.adv (g5.gt hg) g1a (by omega) (by rw [AO,if_pos rfl]:(τ.AL i (psA L s2.adv)).blk i=_)
  rw [A4] at hc
  have h1':=g1a.run read
  have hle:=read.le g1a.wf
  have hst:=g5.step (read.run s2.adv).2
  generalize read.run s2.adv=y at hc h1' hle g6 hst
  obtain ⟨x,s3⟩:=y
  simp only at hc h1' hle g6 hst
  obtain ⟨c0,vs0,⟨o0,n0,u0,ns0,ks0,al0⟩⟩:=x
  simp only [alA,Al.A2,AF,AI] at hc
  (repeat' (first|refine Run.ct rfl ?_|((first|refine Run.reg mixed ?_|refine Run.AJ ?_|(refine AH.upd (DK g1 t τ g5.blk hcc) ?_)|(refine ⟨fr,[.gp i 0],[],rfl,hb,AH.upd hc ?_ (by simp [JY])⟩)|(refine hst.tok rfl (by simp) (by simp;omega) (by decide) (fun v2 τ2 ho=>?_))|(refine AQ rfl (fun h=>?_) (fun h=>?_)<;>try (cases h;done)))<;>try simp -implicitDefEqProofs only [g5.own.BR,go_sem])|(refine ⟨fun h=>?_,fun h=>?_⟩<;>first|(cases h;done)|try simp only [h])|fail))
  refine ih (s3,l++[(Al.mk c0 vs0 (.mk o0 n0 u0 ns0 ks0 al0))],q,v2,τ2) ⟨h1',by simp only;omega,by simp only;omega,by simp only [AA,AB,AE];omega,?_,g6⟩ (by simp only;omega)
  simp only [Bp,AF,AI,Al.A2]
  exact ho
theorem H4 (i:Nat) (L:List Tok) (n:Nat) {read:PM Str} {fr:FuncId} (hb:Aw Tryz.prog fr=true) (hr:PC fr [.gp i 0] i L n read (fun x:Str=>.d (.str x))):
 PCo 166 [.gp i 0,.fn fr [.gp i 0] []] i L n (listed read) 9 1 B0:=by
 intro σ s hg h1 h2 h3
 refine QF (by simp) ?_
 rw [BP]
 have hc:=XP i L n hb hr [44] (by decide) σ s hg h1 h2 h3
 have hr2:(listed read).run s=(((items read [44] (by decide)).run s).1,((PM.exp [41] (by decide)).run ((items read [44] (by decide)).run s).2).2):=rfl
 rw [hr2]
 (repeat' (first|refine Run.ct rfl ?_|((first|refine Run.reg mixed ?_|refine Run.AJ ?_|(refine AH.mk rfl hc ?_;intro v σ1 ho;have hl:=LS.of ho)|(refine AQ rfl (fun h=>?_) (fun h=>?_)<;>try (cases h;done)))<;>try simp -implicitDefEqProofs only [go_sem])|(refine ⟨fun h=>?_,fun h=>?_⟩<;>first|(cases h;done)|try simp only [h])|fail))
 (repeat' (first|refine Run.ct rfl ?_|((first|refine Run.reg mixed ?_|refine Run.AJ ?_|(refine AH.upd (U0 (h1.run _) [41] (by decide) σ1 hl.blk) ?_)|(refine Run.GR JP (AM.le_refl _) ?_)|(refine AQ rfl (fun h=>?_) (fun h=>?_)<;>try (cases h;done)))<;>try simp -implicitDefEqProofs only [ho.BR,ho.Ay,if_true,go_sem])|(refine ⟨fun h=>?_,fun h=>?_⟩<;>first|(cases h;done)|try simp only [h])|fail))
 exact (hl.step _).fin
theorem Oo (i:Nat) (L:List Tok) (n:Nat) {read:PM Str} {fr:FuncId} (hb:Aw Tryz.prog fr=true) (hr:PC fr [.gp i 0] i L n read (fun x:Str=>.d (.str x))):
 PCo 130 [.gp i 0,.fn fr [.gp i 0] []] i L n (closed read) 9 1 B0:=by
 intro σ s hg h1 h2 h3
 refine QD (by simp) ?_
 rw [BP]
 cases hcc:(s.hd.text==[41]) with
 |true=>
  have hr2:(closed read).run s=([],s.adv):=if_pos hcc
  rw [hr2]
  (repeat' (first|refine Run.ct rfl ?_|((first|refine Run.reg mixed ?_|refine Run.AJ ?_|refine Run.GR GL (AM.le_refl _) ?_|(refine AH.upd (DK h1 _ σ h3 hcc) ?_)|(refine AQ rfl (fun h=>?_) (fun h=>?_)<;>try (cases h;done)))<;>try simp -implicitDefEqProofs only [go_sem])|(refine ⟨fun h=>?_,fun h=>?_⟩<;>first|(cases h;done)|try simp only [h])|fail))
  exact EW.nil _ _ _
 |false=>
  have hr2:(closed read).run s=(listed read).run s:=if_neg (by rw [hcc];decide)
  rw [hr2]
  (repeat' (first|refine Run.ct rfl ?_|((first|refine Run.reg mixed ?_|refine Run.AJ ?_|(refine AH.upd (DJ h1 _ σ h3 hcc) ?_)|(refine AH.mk rfl (H4 i L n hb hr σ s hg h1 h2 h3) ?_;intro v σ1 ho)|(refine Run.GR GL (AM.le_refl _) ?_)|(refine AQ rfl (fun h=>?_) (fun h=>?_)<;>try (cases h;done)))<;>try simp -implicitDefEqProofs only [go_sem])|(refine ⟨fun h=>?_,fun h=>?_⟩<;>first|(cases h;done)|try simp only [h])|fail))
  rw [if_pos ho.Ay]
  exact ho
theorem PK (i:Nat) (L:List Tok) (n:Nat) {read:PM Str} {fr:FuncId} (hb:Aw Tryz.prog fr=true) (hr:PC fr [.gp i 0] i L n read (fun x:Str=>.d (.str x))):
 PCo 125 [.gp i 0,.fn fr [.gp i 0] []] i L (n+1) (IZ read) 9 1 B0:=by
 intro σ s hg h1 h2 h3
 refine QI (by simp) ?_
 rw [BP]
 cases hcc:(s.hd.text==[40]) with
 |true=>
  have hr2:(IZ read).run s=(listed read).run s.adv:=if_pos hcc
  rw [hr2]
  have hal:=BX h1.wf
  have hc:=H4 i L n hb hr (σ.AL i (psA L s.adv)) s.adv hg (h1.adv (by decide) hcc) (by omega) (by rw [AO,if_pos rfl])
  rw [A4] at hc
  (repeat' (first|refine Run.ct rfl ?_|((first|refine Run.reg mixed ?_|refine Run.AJ ?_|(refine AH.upd (DK h1 _ σ h3 hcc) ?_)|(refine AH.mk rfl hc ?_;intro v σ1 ho)|(refine Run.GR GN (AM.le_refl _) ?_)|(refine AQ rfl (fun h=>?_) (fun h=>?_)<;>try (cases h;done)))<;>try simp -implicitDefEqProofs only [go_sem])|(refine ⟨fun h=>?_,fun h=>?_⟩<;>first|(cases h;done)|try simp only [h])|fail))
  rw [if_pos ho.Ay]
  exact ho
 |false=>
  have hr2:(IZ read).run s=([],s):=if_neg (by rw [hcc];decide)
  rw [hr2]
  (repeat' (first|refine Run.ct rfl ?_|((first|refine Run.reg mixed ?_|refine Run.AJ ?_|refine Run.GR GN (AM.le_refl _) ?_|(refine AH.upd (DJ h1 _ σ h3 hcc) ?_)|(refine AQ rfl (fun h=>?_) (fun h=>?_)<;>try (cases h;done)))<;>try simp -implicitDefEqProofs only [go_sem])|(refine ⟨fun h=>?_,fun h=>?_⟩<;>first|(cases h;done)|try simp only [h])|fail))
  have:=EW.nil (σ.AL i (psA L s)) 9 1
  rwa [Il h3] at this ⊢
theorem Ei (i:Nat) (L:List Tok) (n:Nat) {read:PM TE} {fr:FuncId} (hb:Aw Tryz.prog fr=true) (hr:PC fr [.gp i 0] i L n read teA):
 PCo 183 [.gp i 0,.fn fr [.gp i 0] []] i L n (listed read) 75 3 TE.enc:=by
 intro σ s hg h1 h2 h3
 refine Ll (by simp) ?_
 rw [BP]
 have hc:=RQ i L n hb hr [44] (by decide) σ s hg h1 h2 h3
 have hr2:(listed read).run s=(((items read [44] (by decide)).run s).1,((PM.exp [41] (by decide)).run ((items read [44] (by decide)).run s).2).2):=rfl
 rw [hr2]
 (repeat' (first|refine Run.ct rfl ?_|((first|refine Run.reg mixed ?_|refine Run.AJ ?_|(refine AH.mk rfl hc ?_;intro v σ1 ho;have hl:=LS.of ho)|(refine AQ rfl (fun h=>?_) (fun h=>?_)<;>try (cases h;done)))<;>try simp -implicitDefEqProofs only [go_sem])|(refine ⟨fun h=>?_,fun h=>?_⟩<;>first|(cases h;done)|try simp only [h])|fail))
 (repeat' (first|refine Run.ct rfl ?_|((first|refine Run.reg mixed ?_|refine Run.AJ ?_|(refine AH.upd (U0 (h1.run _) [41] (by decide) σ1 hl.blk) ?_)|(refine Run.GR G6 (AM.le_refl _) ?_)|(refine AQ rfl (fun h=>?_) (fun h=>?_)<;>try (cases h;done)))<;>try simp -implicitDefEqProofs only [ho.BR,ho.Ay,if_true,go_sem])|(refine ⟨fun h=>?_,fun h=>?_⟩<;>first|(cases h;done)|try simp only [h])|fail))
 exact (hl.step _).fin
theorem Pt (i:Nat) (L:List Tok) (n:Nat) {read:PM TE} {fr:FuncId} (hb:Aw Tryz.prog fr=true) (hr:PC fr [.gp i 0] i L n read teA):
 PCo 185 [.gp i 0,.fn fr [.gp i 0] []] i L n (closed read) 75 3 TE.enc:=by
 intro σ s hg h1 h2 h3
 refine Lk (by simp) ?_
 rw [BP]
 cases hcc:(s.hd.text==[41]) with
 |true=>
  have hr2:(closed read).run s=([],s.adv):=if_pos hcc
  rw [hr2]
  (repeat' (first|refine Run.ct rfl ?_|((first|refine Run.reg mixed ?_|refine Run.AJ ?_|refine Run.GR E1 (AM.le_refl _) ?_|(refine AH.upd (DK h1 _ σ h3 hcc) ?_)|(refine AQ rfl (fun h=>?_) (fun h=>?_)<;>try (cases h;done)))<;>try simp -implicitDefEqProofs only [go_sem])|(refine ⟨fun h=>?_,fun h=>?_⟩<;>first|(cases h;done)|try simp only [h])|fail))
  exact EW.nil _ _ _
 |false=>
  have hr2:(closed read).run s=(listed read).run s:=if_neg (by rw [hcc];decide)
  rw [hr2]
  (repeat' (first|refine Run.ct rfl ?_|((first|refine Run.reg mixed ?_|refine Run.AJ ?_|(refine AH.upd (DJ h1 _ σ h3 hcc) ?_)|(refine AH.mk rfl (Ei i L n hb hr σ s hg h1 h2 h3) ?_;intro v σ1 ho)|(refine Run.GR E1 (AM.le_refl _) ?_)|(refine AQ rfl (fun h=>?_) (fun h=>?_)<;>try (cases h;done)))<;>try simp -implicitDefEqProofs only [go_sem])|(refine ⟨fun h=>?_,fun h=>?_⟩<;>first|(cases h;done)|try simp only [h])|fail))
  rw [if_pos ho.Ay]
  exact ho
theorem JZ (i:Nat) (L:List Tok) (n:Nat) {read:PM TE} {fr:FuncId} (hb:Aw Tryz.prog fr=true) (hr:PC fr [.gp i 0] i L n read teA):
 PCo 167 [.gp i 0,.fn fr [.gp i 0] []] i L (n+1) (IZ read) 75 3 TE.enc:=by
 intro σ s hg h1 h2 h3
 refine Ln (by simp) ?_
 rw [BP]
 cases hcc:(s.hd.text==[40]) with
 |true=>
  have hr2:(IZ read).run s=(listed read).run s.adv:=if_pos hcc
  rw [hr2]
  have hal:=BX h1.wf
  have hc:=Ei i L n hb hr (σ.AL i (psA L s.adv)) s.adv hg (h1.adv (by decide) hcc) (by omega) (by rw [AO,if_pos rfl])
  rw [A4] at hc
  (repeat' (first|refine Run.ct rfl ?_|((first|refine Run.reg mixed ?_|refine Run.AJ ?_|(refine AH.upd (DK h1 _ σ h3 hcc) ?_)|(refine AH.mk rfl hc ?_;intro v σ1 ho)|(refine Run.GR E2 (AM.le_refl _) ?_)|(refine AQ rfl (fun h=>?_) (fun h=>?_)<;>try (cases h;done)))<;>try simp -implicitDefEqProofs only [go_sem])|(refine ⟨fun h=>?_,fun h=>?_⟩<;>first|(cases h;done)|try simp only [h])|fail))
  rw [if_pos ho.Ay]
  exact ho
 |false=>
  have hr2:(IZ read).run s=([],s):=if_neg (by rw [hcc];decide)
  rw [hr2]
  (repeat' (first|refine Run.ct rfl ?_|((first|refine Run.reg mixed ?_|refine Run.AJ ?_|refine Run.GR E2 (AM.le_refl _) ?_|(refine AH.upd (DJ h1 _ σ h3 hcc) ?_)|(refine AQ rfl (fun h=>?_) (fun h=>?_)<;>try (cases h;done)))<;>try simp -implicitDefEqProofs only [go_sem])|(refine ⟨fun h=>?_,fun h=>?_⟩<;>first|(cases h;done)|try simp only [h])|fail))
  have:=EW.nil (σ.AL i (psA L s)) 75 3
  rwa [Il h3] at this ⊢
theorem GQ (i:Nat) (L:List Tok) (n:Nat) {read:PM Ex} {fr:FuncId} (hb:Aw Tryz.prog fr=true) (hr:PC fr [.gp i 0] i L n read exA):
 PCo 214 [.gp i 0,.fn fr [.gp i 0] []] i L n (listed read) 44 6 Ex.enc:=by
 intro σ s hg h1 h2 h3
 refine OV (by simp) ?_
 rw [BP]
 have hc:=VT i L n hb hr [44] (by decide) σ s hg h1 h2 h3
 have hr2:(listed read).run s=(((items read [44] (by decide)).run s).1,((PM.exp [41] (by decide)).run ((items read [44] (by decide)).run s).2).2):=rfl
 rw [hr2]
 (repeat' (first|refine Run.ct rfl ?_|((first|refine Run.reg mixed ?_|refine Run.AJ ?_|(refine AH.mk rfl hc ?_;intro v σ1 ho;have hl:=LS.of ho)|(refine AQ rfl (fun h=>?_) (fun h=>?_)<;>try (cases h;done)))<;>try simp -implicitDefEqProofs only [go_sem])|(refine ⟨fun h=>?_,fun h=>?_⟩<;>first|(cases h;done)|try simp only [h])|fail))
 (repeat' (first|refine Run.ct rfl ?_|((first|refine Run.reg mixed ?_|refine Run.AJ ?_|(refine AH.upd (U0 (h1.run _) [41] (by decide) σ1 hl.blk) ?_)|(refine Run.GR Hz (AM.le_refl _) ?_)|(refine AQ rfl (fun h=>?_) (fun h=>?_)<;>try (cases h;done)))<;>try simp -implicitDefEqProofs only [ho.BR,ho.Ay,if_true,go_sem])|(refine ⟨fun h=>?_,fun h=>?_⟩<;>first|(cases h;done)|try simp only [h])|fail))
 exact (hl.step _).fin
theorem UY (i:Nat) (L:List Tok) (n:Nat) {read:PM Ex} {fr:FuncId} (hb:Aw Tryz.prog fr=true) (hr:PC fr [.gp i 0] i L n read exA):
 PCo 208 [.gp i 0,.fn fr [.gp i 0] []] i L n (closed read) 44 6 Ex.enc:=by
 intro σ s hg h1 h2 h3
 refine OU (by simp) ?_
 rw [BP]
 cases hcc:(s.hd.text==[41]) with
 |true=>
  have hr2:(closed read).run s=([],s.adv):=if_pos hcc
  rw [hr2]
  (repeat' (first|refine Run.ct rfl ?_|((first|refine Run.reg mixed ?_|refine Run.AJ ?_|refine Run.GR FU (AM.le_refl _) ?_|(refine AH.upd (DK h1 _ σ h3 hcc) ?_)|(refine AQ rfl (fun h=>?_) (fun h=>?_)<;>try (cases h;done)))<;>try simp -implicitDefEqProofs only [go_sem])|(refine ⟨fun h=>?_,fun h=>?_⟩<;>first|(cases h;done)|try simp only [h])|fail))
  exact EW.nil _ _ _
 |false=>
  have hr2:(closed read).run s=(listed read).run s:=if_neg (by rw [hcc];decide)
  rw [hr2]
  (repeat' (first|refine Run.ct rfl ?_|((first|refine Run.reg mixed ?_|refine Run.AJ ?_|(refine AH.upd (DJ h1 _ σ h3 hcc) ?_)|(refine AH.mk rfl (GQ i L n hb hr σ s hg h1 h2 h3) ?_;intro v σ1 ho)|(refine Run.GR FU (AM.le_refl _) ?_)|(refine AQ rfl (fun h=>?_) (fun h=>?_)<;>try (cases h;done)))<;>try simp -implicitDefEqProofs only [go_sem])|(refine ⟨fun h=>?_,fun h=>?_⟩<;>first|(cases h;done)|try simp only [h])|fail))
  rw [if_pos ho.Ay]
  exact ho
theorem Ud (i:Nat) (L:List Tok) (n:Nat) {read:PM Ex} {fr:FuncId} (hb:Aw Tryz.prog fr=true) (hr:PC fr [.gp i 0] i L n read exA):
 PCo 210 [.gp i 0,.fn fr [.gp i 0] []] i L (n+1) (IZ read) 44 6 Ex.enc:=by
 intro σ s hg h1 h2 h3
 refine OW (by simp) ?_
 rw [BP]
 cases hcc:(s.hd.text==[40]) with
 |true=>
  have hr2:(IZ read).run s=(listed read).run s.adv:=if_pos hcc
  rw [hr2]
  have hal:=BX h1.wf
  have hc:=GQ i L n hb hr (σ.AL i (psA L s.adv)) s.adv hg (h1.adv (by decide) hcc) (by omega) (by rw [AO,if_pos rfl])
  rw [A4] at hc
  (repeat' (first|refine Run.ct rfl ?_|((first|refine Run.reg mixed ?_|refine Run.AJ ?_|(refine AH.upd (DK h1 _ σ h3 hcc) ?_)|(refine AH.mk rfl hc ?_;intro v σ1 ho)|(refine Run.GR FV (AM.le_refl _) ?_)|(refine AQ rfl (fun h=>?_) (fun h=>?_)<;>try (cases h;done)))<;>try simp -implicitDefEqProofs only [go_sem])|(refine ⟨fun h=>?_,fun h=>?_⟩<;>first|(cases h;done)|try simp only [h])|fail))
  rw [if_pos ho.Ay]
  exact ho
 |false=>
  have hr2:(IZ read).run s=([],s):=if_neg (by rw [hcc];decide)
  rw [hr2]
  (repeat' (first|refine Run.ct rfl ?_|((first|refine Run.reg mixed ?_|refine Run.AJ ?_|refine Run.GR FV (AM.le_refl _) ?_|(refine AH.upd (DJ h1 _ σ h3 hcc) ?_)|(refine AQ rfl (fun h=>?_) (fun h=>?_)<;>try (cases h;done)))<;>try simp -implicitDefEqProofs only [go_sem])|(refine ⟨fun h=>?_,fun h=>?_⟩<;>first|(cases h;done)|try simp only [h])|fail))
  have:=EW.nil (σ.AL i (psA L s)) 44 6
  rwa [Il h3] at this ⊢
end Go.Ab
