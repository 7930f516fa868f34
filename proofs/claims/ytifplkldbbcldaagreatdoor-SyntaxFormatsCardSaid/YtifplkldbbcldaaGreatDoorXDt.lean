/- Data types of package api as plain data. Guarded operations that change nothing, run whatever the guard is. The parser's state in memory; its steps over single tokens. Lists that the parser builds: rows that it owns. Lists of the parser: items, listed, closed, option. Conditions: none. -/
import Derived.Test.YtifplkldbbcldaaGreatDoorXRa
set_option linter.unusedSimpArgs false
set_option linter.unusedVariables false
set_option maxRecDepth 4000
set_option maxHeartbeats 8000000
open List renaming take_append_drop→Et,getElem?_map→BE,getElem?_append_right→BD,getElem?_eq_some_iff→Ad,length_pos_iff→Aj,length_map→AE,length_append→AA,length_cons→AB,length_nil→AD,map_cons→AG,map_nil→AH,map_append→Bg
open Bool renaming eq_iff_iff→Dt
open Nat renaming le_refl→A8,le_trans→BC
namespace Go.Ab
structure Con where
 name:List UInt8
 args:List Ty
structure Dat where
 name:List UInt8
 vars:Int
 cons:List Con
def Con.enc (c:Con):List DV:=[.str c.name,.sl (Ty.Np c.args)]
def Dat.enc (d:Dat):List DV:=[.str d.name,.int .i64 d.vars,.sl (d.cons.map Con.enc)]
theorem Ke (l:List Ty) (i:Nat):Ty.BA (l.take i)≤Ty.BA l:=by
 have:=DB (l.take i) (l.drop i)
 rw [Et] at this;omega
theorem Uv {a:Nat} (h:a≤9000000000000000000):IntKind.i64.wrap (((a+1:Nat):Int) - 1)=(a:Int):=by
 rw [Av (by omega) (by omega)];omega
theorem Run.xS {cx:Cx} {KK:AV→AN→Prop} {k:List CI} {F:Fm} {L:Lm} {σ σ':AN} (e:σ'=σ) (h:Run cx KK k F L σ'):Run cx KK k F L σ:=e ▸ h
theorem Run.AB6 {cx:Cx} {KK:AV→AN→Prop} {k:List CI} {c:C} {F:Fm} {L:Lm} {σ:AN} {α:Type} (ks:List Nat) (Fs:α→Fm) (Ls:Lm) (σs:AN) (I:α→Prop) (h2:∀a,I a→Run cx KK k (Fs a) Ls σs)
 (h1:(∀(F':Fm) (L':Lm) (a:α),WR ks F'=Fs a→Sb ks L'=Ls→I a→Run cx KK k F' L' σs)→Run cx KK (.code c::k) F L σ):Run cx KK (.code c::k) F L σ:=
 h1 fun F' L' a hF hL hI=>Run.PX ks (by rw [hF,hL];exact h2 a hI)
theorem sP {σ:AN} {i:Nat} {z:List AV} {x:Nat×TypeId} (h:σ.blk i=none∧σ.bt i=none):σ.le ((σ.AK i z).Ge i x)∧((σ.AK i z).Ge i x).blk i=some z:=
 ⟨⟨fun j cs hj=>by
    have hne:j≠i:=fun e=>by rw [e,h.1] at hj;cases hj
    simp [AN.Ge,AN.AK,hne,hj],fun _ h=>h,rfl,fun j y hj=>by
    have hne:j≠i:=fun e=>by rw [e,h.2] at hj;cases hj
    simp [AN.Ge,AN.AK,hne,hj]⟩,by simp [AN.Ge,AN.AK]⟩
theorem ZA {σ σ1:AN} {i:Nat} {cs:List AV} (h:σ.le σ1) (hn:σ.blk i=none):σ.le (σ1.AK i cs):=
 ⟨fun j ds hj=>by
   have hne:j≠i:=fun e=>by rw [e,hn] at hj;cases hj
   rw [AO,if_neg hne];exact h.blk j ds hj,h.tok,h.gt,h.bt⟩
theorem EG (a b:List UInt8):bF .eql a b=some (.d (.bool (a==b))):=rfl
theorem Jf (a b:List UInt8):bF .neq a b=some (.d (.bool (!(a==b)))):=rfl
theorem gtN (n k:Nat):decide ((k:Int) < (n:Int))=!decide (n≤k):=by
 rw [Dt];simp
theorem leN (n k:Nat):decide ((n:Int)≤(k:Int))=decide (n≤k):=decide_eq_decide.2 (by omega)
theorem ltN (n k:Nat):decide ((n:Int) < (k:Int))=decide (n < k):=decide_eq_decide.2 (by omega)
theorem Bt {a b:Int} (h:a≠b):(a==b)=false:=by simpa using h
end Go.Ab
namespace Go.Ab
open Go.RowKit
variable {P:Program} {K:CY} {F:Fm} {L:Lm} {σ:AN}
def sel (c:Bool) (v:AV):AV:=if c then v else .tup []
theorem Za (v:AV):sel true v=v:=rfl
def GV (want:Bool) (x:AV) (c:Bool):Prop:=gdV want x=some c
theorem GV.t {b:Bool}:GV true (.d (.bool b)) b:=by cases b<;>rfl
theorem GV.f {b:Bool}:GV false (.d (.bool b)) (!b):=by cases b<;>rfl
theorem GV.st {b c:Bool}:GV true (sel c (.d (.bool b))) (c&&b):=by cases b<;>cases c<;>rfl
theorem GV.sf {b c:Bool}:GV false (sel c (.d (.bool b))) (c&& !b):=by cases b<;>cases c<;>rfl
def Is (d:Nat) (v:AV) (F:Fm) (L:Lm) (σ:AN):CY:=fun F' L' σ'=>F'=put d v F∧L'=L∧σ'=σ
theorem Is.mk {d:Nat} {v:AV}:Is d v F L σ (put d v F) L σ:=⟨rfl,rfl,rfl⟩
theorem AD7 {d s:Nat} {o:O} {want c:Bool} {v:AV} {r:List Q} (hg:GV want (F s) c)
 (hy:c=true→BR P (Is d v F L σ) [⟨some d,o,none⟩] F L σ)
 (hk:BR P K r (put d (sel c v) F) L σ):BR P K (⟨some d,o,some (s,want)⟩::r) F L σ:=by
 show XG (gd F (some (s,want))) (XO P (some d) (BR P K r) F L σ o) (BR P K r (At (some d) (.tup []) F) L σ)
 have hgd:gd F (some (s,want))=some c:=hg
 rw [hgd]
 cases c with
 |true=>exact j4 (fun F' L' σ' ⟨h1,h2,h3⟩=>by rw [h1,h2,h3];exact hk) (hy rfl)
 |false=>exact hk
theorem MA (c x:Bool):(if c=true then sel c (.d (.bool x)) else (.d (.bool false)))=AV.d (.bool (c&&x)):=by cases c<;>rfl
theorem RE (c x:Bool):(if c=true then (.d (.bool true)) else sel (!c) (.d (.bool x)))=AV.d (.bool (c||x)):=by cases c<;>rfl
end Go.Ab
namespace Go.Ab
theorem fT {P:Program} {K:CY} {F:Fm} {L:Lm} {σ:AN} {d s:Nat} {o:O} {want c:Bool} {r:List Q} (hg:GV want (F s) c)
 (h:∃v,(c=true→BR P (Is d v F L σ) [⟨some d,o,none⟩] F L σ)∧BR P K r (put d (sel c v) F) L σ):BR P K (⟨some d,o,some (s,want)⟩::r) F L σ:=by
 obtain ⟨v,h1,h2⟩:=h
 exact AD7 hg h1 h2
end Go.Ab
namespace Go.Ab
theorem Is.pv {d:Nat} {v:AV} {F:Fm} {L:Lm} {σ:AN} {x:Option AV} (h:x=some v):XPv x (some d) (Is d v F L σ) F L σ:=by
 subst h;exact Is.mk
theorem AI.kU {P:Program} {f:FuncId} {args args':List AV} {d:Option Nat} {K:CY} {F:Fm} {L:Lm} {σ:AN} (e:args=args') (h:AI P f args' d K F L σ):AI P f args d K F L σ:=e ▸ h
end Go.Ab
namespace Go.Ab
theorem OM (c:Bool) (v:AV):sel c (sel c v)=sel c v:=by cases c<;>rfl
theorem Sw (c x:Bool) (v:AV):sel (c&&x) (sel c v)=sel (c&&x) v:=by cases c<;>cases x<;>rfl
theorem Sx (c x:Bool) (v:AV):sel (c&&x) (sel x v)=sel (c&&x) v:=by cases c<;>cases x<;>rfl
end Go.Ab
namespace Go.Ab
theorem MB (c x:Bool):(if (!c)=true then (.d (.bool true)) else sel c (.d (.bool x)))=AV.d (.bool (!c||x)):=by cases c<;>rfl
end Go.Ab
namespace Go.Ab
open Go.Proofs
variable {P:Program} {cx:Cx} {F:Fm} {Lm0:Lm} {σ σ1:AN} {KX:CY}
theorem AI.upd {d:Option Nat} {f:FuncId} {args:List AV} {v:AV} (h:AQ P f args σ (fun v' σ'=>v'=v∧σ'=σ1)) (hk:KX (At d v F) Lm0 σ1) (hn:args.all AV.As=true:=by rfl):AI P f args d KX F Lm0 σ:=
 AI.mk hn h (fun v' σ' ⟨e1,e2⟩=>by subst e1;subst e2;exact hk)
def Zu (L:List Tok):DV:= .sl (L.map Tok.enc)
def psA (L:List Tok) (s:PSt):List AV:=[.d (Zu L),.d (.int .i64 ((L.length - s.r.length:Nat):Int)),.d (.bool s.f),.d (.int .i64 ((s.p:Nat):Int))]
structure POk (L:List Tok) (s:PSt):Prop where
 wf:WF s.r
 suf:s.r <:+L
 len:L.length≤17000
theorem POk.run {α:Type} {L:List Tok} {s:PSt} (h:POk L s) (m:PM α):POk L (m.run s).2:=⟨(m.sf s h.wf).1,(m.sf s h.wf).2.trans h.suf,h.len⟩
theorem PM.le {α:Type} {s:PSt} (m:PM α) (h:WF s.r):(m.run s).2.r.length≤s.r.length:=(m.sf s h).2.length_le
theorem POk.at {L:List Tok} {s:PSt} (h:POk L s):(L.map Tok.enc)[L.length - s.r.length]?=some [.int .i64 s.hd.kind,.str s.hd.text,.int .i64 ((s.hd.pos:Nat):Int)]:=by
 obtain ⟨pre,he⟩:=h.suf
 obtain ⟨r,f,p⟩:=s
 cases r with
 |nil=>exact h.wf.elim
 |cons t l=>
  simp only at he
  subst he
  rw [BE,show (pre++t::l).length - (t::l).length=pre.length by simp,BD (A8 _),Nat.sub_self];rfl
theorem POk.adv {L:List Tok} {s:PSt} (h:POk L s) {t:Str} (ht:t≠[]) (hc:(s.hd.text==t)=true):POk L s.adv:=by
 rw [beq_iff_eq] at hc
 obtain ⟨h1,h2⟩:=TK h.wf (.inr (by rw [hc];exact ht))
 exact ⟨h1,h2.trans h.suf,h.len⟩
theorem POk.fail {L:List Tok} {s:PSt} (h:POk L s):POk L s.fail:=⟨(Vv h.wf).1,(Vv h.wf).2.trans h.suf,h.len⟩
theorem POk.idx {L:List Tok} {s:PSt} (h:POk L s):L.length - s.adv.r.length=(L.length - s.r.length)+1∧L.length - s.r.length≤17000:=by
 have h1:=B0 h.wf
 have h2:=h.suf.length_le
 have h3:=h.len
 omega
theorem oR {L:List Tok} {s:PSt} (h:POk L s):psA L s.adv=[.d (Zu L),.d (.int .i64 (((L.length - s.r.length)+1:Nat):Int)),.d (.bool s.f),.d (.int .i64 ((s.p:Nat):Int))]:=by
 unfold psA;rw [h.idx.1];rfl
section
variable {L:List Tok} {i:Nat} {s:PSt}
theorem Q5 (hs:POk L s) (σ:AN) (hb:σ.blk i=some (psA L s)):AQ Tryz.prog 64 [.gp i 0] σ (fun v σ'=>v= .agg [.d (.int .i64 s.hd.kind),.d (.str s.hd.text),.d (.int .i64 ((s.hd.pos:Nat):Int))]∧σ'=σ):=by
 refine S0 (by simp) ?_
 rw [Ax]
 have hat:=hs.at
 unfold psA Zu at hb
 have hix:((L.length - s.r.length:Nat):Int) < ((L.map Tok.enc).length:Int):=by
  have:=(Ad.1 hat).1;omega
 (repeat' (first|refine Run.ct rfl ?_|((first|refine Run.reg mixed ?_|refine Run.AJ ?_|refine Run.A9 LU (AN.le_refl _) ?_)<;>try simp -implicitDefEqProofs only [hb,hat,go_sem])|fail))
theorem DM (hs:POk L s) (t:Str) (σ:AN) (hb:σ.blk i=some (psA L s)) (hc:(s.hd.text==t)=true):AQ Tryz.prog 65 [.gp i 0,.d (.str t)] σ (fun v σ'=>v= .d (.bool true)∧σ'=σ.AK i (psA L s.adv)):=by
 refine J6 (by simp) ?_
 rw [BP,oR hs]
 have hpk:=Q5 hs σ hb
 have hw:=BV (a:=L.length - s.r.length) (by have:=hs.idx.2;omega)
 unfold psA at hb
 (repeat' (first|refine Run.ct rfl ?_|((first|refine Run.reg mixed ?_|refine Run.AJ ?_|refine Run.A9 GU (AN.le_refl _) ?_|refine AI.det (hpk) ?_)<;>try simp -implicitDefEqProofs only [Jf,hc,hb,hw,go_sem])|fail))
theorem DL (hs:POk L s) (t:Str) (σ:AN) (hb:σ.blk i=some (psA L s)) (hc:(s.hd.text==t)=false):AQ Tryz.prog 65 [.gp i 0,.d (.str t)] σ (fun v σ'=>v= .d (.bool false)∧σ'=σ):=by
 refine J6 (by simp) ?_
 rw [BP]
 have hpk:=Q5 hs σ hb
 (repeat' (first|refine Run.ct rfl ?_|((first|refine Run.reg mixed ?_|refine Run.AJ ?_|refine Run.A9 GU (AN.le_refl _) ?_|refine AI.det (hpk) ?_)<;>try simp -implicitDefEqProofs only [Jf,hc,go_sem])|fail))
theorem V0 (hs:POk L s) (σ:AN) (hb:σ.blk i=some (psA L s)):AQ Tryz.prog 68 [.gp i 0] σ (fun v σ'=>v= .tup []∧σ'=σ.AK i (psA L s.fail)):=by
 refine SY (by simp) ?_
 rw [Ax]
 have hpk:=Q5 hs σ hb
 have hl:1≤L.length:=BC (Aj.2 hs.wf.ne) hs.suf.length_le
 have hlen:=hs.len
 have hw:IntKind.i64.wrap ((L.length:Int) - 1)=((L.length - 1:Nat):Int):=by rw [Av (by omega) (by omega)];omega
 have hfl:=gL hs.wf
 have hst:psA L s.fail=[.d (Zu L),.d (.int .i64 ((L.length - 1:Nat):Int)),.d (.bool true),.d (.int .i64 (((if s.f then s.p else s.hd.pos):Nat):Int))]:=by
  unfold psA;rw [hfl];rfl
 rw [hst]
 unfold psA Zu at hb
 cases hf:s.f with
 |true=>
  rw [hf] at hb
  (repeat' (first|refine Run.ct rfl ?_|((first|refine Run.reg mixed ?_|refine Run.AJ ?_)<;>try simp -implicitDefEqProofs only [hb,hw,AE,go_sem])|fail))
  exact Run.fin HS rfl (fun _ _ h=>h) (AN.le_refl _) ⟨rfl,rfl⟩
 |false=>
  rw [hf] at hb
  (repeat' (first|refine Run.ct rfl ?_|((first|refine Run.reg mixed ?_|refine Run.AJ ?_|refine AI.det (hpk) ?_)<;>try simp -implicitDefEqProofs only [hb,hw,AE,AO,go_sem])|fail))
  exact Run.fin HS rfl (fun _ _ h=>h) (AN.le_refl _) ⟨rfl,rfl⟩
theorem U8 (hs:POk L s) (t:Str) (ht:t≠[]) (σ:AN) (hb:σ.blk i=some (psA L s)):AQ Tryz.prog 127 [.gp i 0,.d (.str t)] σ (fun v σ'=>v= .tup []∧σ'=σ.AK i (psA L ((PM.exp t ht).run s).2)):=by
 refine QR (by simp) ?_
 rw [BP]
 cases hc:(s.hd.text==t) with
 |true=>
  have hr:((PM.exp t ht).run s).2=s.adv:=by
   show (if s.hd.text==t then ((),s.adv) else ((),s.fail)).2=_
   rw [if_pos hc]
  rw [hr]
  (repeat' (first|refine Run.ct rfl ?_|((first|refine Run.reg mixed ?_|refine Run.AJ ?_|(refine AI.upd (DM hs t σ hb hc) ?_))<;>try simp -implicitDefEqProofs only [go_sem])|fail))
  exact Run.fin GW rfl (fun _ _ h=>h) (AN.le_refl _) ⟨rfl,rfl⟩
 |false=>
  have hr:((PM.exp t ht).run s).2=s.fail:=by
   show (if s.hd.text==t then ((),s.adv) else ((),s.fail)).2=_
   rw [if_neg (by rw [hc];decide)]
  rw [hr]
  (repeat' (first|refine Run.ct rfl ?_|((first|refine Run.reg mixed ?_|refine Run.AJ ?_|(refine AI.upd (DL hs t σ hb hc) ?_)|(refine AI.upd (V0 hs σ hb) ?_))<;>try simp -implicitDefEqProofs only [go_sem])|fail))
  exact Run.fin GW rfl (fun _ _ h=>h) (AN.le_refl _) ⟨rfl,rfl⟩
theorem zE (hs:POk L s) (k:Int) (hk:k≠6) (σ:AN) (hb:σ.blk i=some (psA L s)):AQ Tryz.prog 124 [.gp i 0,.d (.int .i64 k)] σ (fun v σ'=>v= .d (.str ((PM.take k hk).run s).1)∧σ'=σ.AK i (psA L ((PM.take k hk).run s).2)):=by
 refine S3 (by simp) ?_
 rw [BP]
 have hpk:=Q5 hs σ hb
 cases hc:(s.hd.kind==k) with
 |true=>
  have hr:(PM.take k hk).run s=(s.hd.text,s.adv):=if_pos hc
  rw [hr,oR hs]
  have hw:=BV (a:=L.length - s.r.length) (by have:=hs.idx.2;omega)
  have hne:(s.hd.kind != k)=false:=by unfold bne;rw [hc];rfl
  unfold psA at hb
  (repeat' (first|refine Run.ct rfl ?_|((first|refine Run.reg mixed ?_|refine Run.AJ ?_|refine Run.A9 HT (AN.le_refl _) ?_|refine AI.det (hpk) ?_)<;>try simp -implicitDefEqProofs only [hne,hb,hw,go_sem])|fail))
 |false=>
  have hr:(PM.take k hk).run s=([],s.fail):=if_neg (by simp only;rw [hc];decide)
  have hne:(s.hd.kind != k)=true:=by unfold bne;rw [hc];rfl
  rw [hr]
  (repeat' (first|refine Run.ct rfl ?_|((first|refine Run.reg mixed ?_|refine Run.AJ ?_|refine Run.A9 HT (AN.le_refl _) ?_|(refine AI.upd (V0 hs σ hb) ?_)|refine AI.det (hpk) ?_)<;>try simp -implicitDefEqProofs only [hne,go_sem])|fail))
end
def Xt (σ:AN):Prop:=∃te pe,σ.gt Y9=some #[.iface te pe]
def PC {α:Type} (fid:FuncId) (args:List AV) (i:Nat) (L:List Tok) (n:Nat) (m:PM α) (enc:α→AV):Prop:=
 ∀(σ:AN) (s:PSt),Xt σ→POk L s→s.r.length≤n→σ.blk i=some (psA L s)→AQ Tryz.prog fid args σ (fun v σ'=>v=enc (m.run s).1∧σ'=σ.AK i (psA L (m.run s).2))
theorem PC.mono {α:Type} {fid:FuncId} {args:List AV} {i:Nat} {L:List Tok} {n k:Nat} {m:PM α} {enc:α→AV} (h:PC fid args i L n m enc) (hk:k≤n):PC fid args i L k m enc:=fun σ s hg h1 h2 h3=>h σ s hg h1 (BC h2 hk) h3
theorem fJ (i:Nat) (L:List Tok) (n:Nat) (k:Int) (hk:k≠6):PC 124 [.gp i 0,.d (.int .i64 k)] i L n (PM.take k hk) (fun x=>.d (.str x)):=fun σ s _ h1 _ h3=>zE h1 k hk σ h3
theorem Q3 (i:Nat) (L:List Tok) (n:Nat):PC 126 [.gp i 0] i L n Fp (fun x=>.d (.str x)):=fun σ s hg h1 h2 h3=>by
 refine SZ (by simp) ?_
 rw [Ax]
 (repeat' (first|refine Run.ct rfl ?_|((first|refine Run.reg mixed ?_|refine Run.AJ ?_|refine Run.A9 LR (AN.le_refl _) ?_|(refine AI.upd (fJ i L n 1 (by decide) σ s hg h1 h2 h3) ?_))<;>try simp -implicitDefEqProofs only [go_sem])|fail))
 exact ⟨rfl,rfl⟩
theorem TN (i:Nat) (L:List Tok) (n:Nat):PC 172 [.gp i 0] i L n Gd (fun x=>.d (.str x)):=fun σ s hg h1 h2 h3=>by
 refine SS (by simp) ?_
 rw [Ax]
 cases hc:(s.hd.text==[95]) with
 |true=>
  have hr:Gd.run s=([],s.adv):=if_pos hc
  rw [hr]
  (repeat' (first|refine Run.ct rfl ?_|((first|refine Run.reg mixed ?_|refine Run.AJ ?_|refine Run.A9 HQ (AN.le_refl _) ?_|(refine AI.upd (DM h1 _ σ h3 hc) ?_))<;>try simp -implicitDefEqProofs only [go_sem])|fail))
 |false=>
  have hr:Gd.run s=Fp.run s:=if_neg (by rw [hc];decide)
  rw [hr]
  (repeat' (first|refine Run.ct rfl ?_|((first|refine Run.reg mixed ?_|refine Run.AJ ?_|refine Run.A9 HQ (AN.le_refl _) ?_|(refine AI.upd (DL h1 _ σ h3 hc) ?_)|(refine AI.upd (Q3 i L n σ s hg h1 h2 h3) ?_))<;>try simp -implicitDefEqProofs only [go_sem])|fail))
end Go.Ab
namespace Go.Ab
open Go.Proofs
variable {P:Program}
theorem Vb {σ τ:AN} (h:σ.le τ) {j:Nat} (hj:σ.blk j=none) (cs:List AV):σ.le (τ.AK j cs):=
 ⟨fun i c hi=>by
   have:i≠j:=fun e=>by rw [e,hj] at hi;cases hi
   rw [AO,if_neg this];exact h.blk i c hi,h.tok,h.gt,h.bt⟩
theorem tN (σ:AN) (i:Nat) (cs:List AV):(σ.DK i).le (σ.AK i cs):=⟨fun j c hj=>by
 have:j≠i:=fun e=>by rw [e] at hj;simp [AN.DK] at hj
 rw [AO,if_neg this];simpa [AN.DK,this] using hj,fun _ h=>h,rfl,fun _ _ h=>h⟩
theorem NH (σ:AN) (i:Nat):(σ.DK i).blk i=none:=by simp [AN.DK]
theorem wC {σ τ:AN} {i:Nat} {cs:List AV} (h:(σ.DK i).le τ) (hb:τ.blk i=some cs):(σ.AK i cs).le τ:=
 ⟨fun j c hj=>by
   rw [AO] at hj
   split at hj
   · rename_i e;subst e;cases hj;exact hb
   · rename_i e;exact h.blk j c (by simpa [AN.DK,e] using hj),h.tok,h.gt,h.bt⟩
theorem sQ {σ σ1:AN} {e s:Nat} {v:AV} {rows:List (List DV)} (h:Pv σ e s v=some (rows,σ1)):σ1.blk=σ.blk:=by
 unfold Pv at h
 split at h
 · cases h;rfl
 · split at h
   · cases h;rfl
   · cases h
 · cases h
theorem D8.mono {σ σ' τ:AN} {e s:Nat} {rows:List (List DV)} {v:AV} (h:D8 σ e s rows v τ) (hl:σ'.le σ):D8 σ' e s rows v τ:=by
 obtain ⟨σ1,ha,hle⟩:=h.app
 exact ⟨⟨σ1,ha,AN.le_trans hl hle⟩,AN.le_trans hl h.le,h.plain,h.len,h.cell,h.As,h.BJ,h.dv,h.cells⟩
theorem D8.mM {σ τ:AN} {e s:Nat} {rows:List (List DV)} {v:AV} (h:D8 σ e s rows v τ) {j:Nat} (hj:σ.blk j=none) (cs:List AV):D8 σ e s rows v (τ.AK j cs):=by
 obtain ⟨σ1,ha,hle⟩:=h.app
 refine ⟨?_,Vb h.le hj cs,h.plain,h.len,h.cell,h.As,h.BJ,h.dv,h.cells⟩
 unfold Pv at ha ⊢
 split at ha
 · cases ha
   exact ⟨_,rfl,Vb hle hj cs⟩
 · rename_i t e' s' rows'
   split at ha
   · rename_i hc
     cases ha
     exact ⟨(τ.AK j cs).FN t,if_pos hc,Vb hle hj cs⟩
   · cases ha
 · cases ha
theorem D8.put {σ τ:AN} {e s i:Nat} {cs:List AV} {rows:List (List DV)} {v:AV} (h:D8 (σ.DK i) e s rows v τ) (hb:τ.blk i=some cs):D8 (σ.AK i cs) e s rows v τ:=by
 obtain ⟨σ1,ha,hle⟩:=h.app
 exact ⟨⟨σ1,ha,wC hle (by rw [sQ ha];exact hb)⟩,wC h.le hb,h.plain,h.len,h.cell,h.As,h.BJ,h.dv,h.cells⟩
theorem AQ.ADV {f:FuncId} {args:List AV} {σ σ1:AN} {e s:Nat} {rows:List (List DV)} (h:AQ P f args σ (fun v σ'=>D8 σ1 e s rows v σ')):AQ P f args σ (fun v σ'=>v= .d (.sl rows)∧σ'=σ1):=
 fun base g Pr w0 w vs hr hv=>(h base g Pr w0 w vs hr hv).mono fun _ _ ⟨v,_,g',_,a,b,c,d,e,q⟩=>⟨v,.d (.sl rows),g',σ1,a,by have:=b.plain;rwa [q.plain] at this,c.less q.le,d,e,rfl,rfl⟩
structure LS (σ:AN) (i:Nat) (L:List Tok) (s:PSt) (e z:Nat) (rows:List (List DV)) (v:AV) (τ:AN):Prop where
 own:D8 (σ.DK i) e z rows v τ
 blk:τ.blk i=some (psA L s)
theorem LS.step {σ τ:AN} {i:Nat} {L:List Tok} {s:PSt} {e z:Nat} {rows:List (List DV)} {v:AV} (h:LS σ i L s e z rows v τ) (s':PSt):LS σ i L s' e z rows v (τ.AK i (psA L s')):=
 ⟨h.own.mM (NH σ i) _,by rw [AO,if_pos rfl]⟩
theorem LS.fin {σ τ:AN} {i:Nat} {L:List Tok} {s:PSt} {e z:Nat} {rows:List (List DV)} {v:AV} (h:LS σ i L s e z rows v τ):D8 (σ.AK i (psA L s)) e z rows v τ:=h.own.put h.blk
theorem LS.le {σ τ:AN} {i:Nat} {L:List Tok} {s:PSt} {e z:Nat} {rows:List (List DV)} {v:AV} (h:LS σ i L s e z rows v τ):(σ.AK i (psA L s)).le τ:=h.fin.le
theorem LS.of {σ τ:AN} {i:Nat} {L:List Tok} {s:PSt} {e z:Nat} {rows:List (List DV)} {v:AV} (h:D8 (σ.AK i (psA L s)) e z rows v τ):LS σ i L s e z rows v τ:=
 ⟨h.mono (tN σ i _),h.le.blk i _ (by rw [AO,if_pos rfl])⟩
theorem LS.lit {σ:AN} {i:Nat} {L:List Tok} {s:PSt} {e z t:Nat} {rows:List (List DV)} (ht:σ.tok t=false):LS σ i L s e z rows (.own t e z rows) ((σ.AK i (psA L s)).Da t):=
 ⟨D8.own (tN σ i _) (σ':=σ) ⟨fun j c hj=>by
   have:j≠i:=fun e=>by rw [e] at hj;simp [AN.DK] at hj
   simpa [AN.DK,this] using hj,fun _ h=>h,rfl,fun _ _ h=>h⟩ ht,by rw [GO,AO,if_pos rfl]⟩
theorem LS.gt {σ τ:AN} {i:Nat} {L:List Tok} {s:PSt} {e z:Nat} {rows:List (List DV)} {v:AV} (h:LS σ i L s e z rows v τ) (hg:Xt σ):Xt τ:=by
 obtain ⟨te,pe,he⟩:=hg
 refine ⟨te,pe,?_⟩
 rw [← h.own.le.gt];exact he
theorem LS.yG {σ:AN} {i:Nat} {L:List Tok} {s:PSt} {e z t:Nat} {rows:List (List DV)} (ht:(σ.AK i (psA L s)).tok t=false):LS σ i L s e z rows (.own t e z rows) ((σ.AK i (psA L s)).Da t):=LS.lit (σ:=σ) ht
theorem LS.yH {σ:AN} {i:Nat} {L:List Tok} {s:PSt} {e z t:Nat} {rows:List (List DV)} (ht:(σ.AK i (psA L s)).tok t=false) (s':PSt):LS σ i L s' e z rows (.own t e z rows) (((σ.AK i (psA L s)).Da t).AK i (psA L s')):=(LS.yG ht).step s'
theorem LS.tok {σ τ:AN} {i:Nat} {L:List Tok} {s:PSt} {e z:Nat} {rows:List (List DV)} {v:AV} (h:LS σ i L s e z rows v τ) {F:Fm} {Lm0:Lm} {K:CY} {d:Option Nat} {bytes:Nat} {x:AV} {srows:List (List DV)} (h2:x.rows=some srows) (h3:∀r∈srows,r.length=z) (h4:rows.length+srows.length≤1000000000) (hb:bytes≤10000)
 (hk:∀v' τ',LS σ i L s e z (rows++srows) v' τ'→K (At d v' F) Lm0 τ'):JH e z bytes v x d K F Lm0 τ:=
 JH.own h.own h2 h3 h4 hb (fun v' τ' ho hbk=>hk v' τ' ⟨ho,by rw [hbk];exact h.blk⟩)
def PCo {α:Type} (fid:FuncId) (args:List AV) (i:Nat) (L:List Tok) (n:Nat) (m:PM (List α)) (e z:Nat) (enc:α→List DV):Prop:=
 ∀(σ:AN) (s:PSt),Xt σ→POk L s→s.r.length≤n→σ.blk i=some (psA L s)→AQ Tryz.prog fid args σ (fun v σ'=>D8 (σ.AK i (psA L (m.run s).2)) e z ((m.run s).1.map enc) v σ')
theorem PCo.pc {α:Type} {fid:FuncId} {args:List AV} {i:Nat} {L:List Tok} {n:Nat} {m:PM (List α)} {e z:Nat} {enc:α→List DV} (h:PCo fid args i L n m e z enc):PC fid args i L n m (fun l=>.d (.sl (l.map enc))):=fun σ s hg h1 h2 h3=>(h σ s hg h1 h2 h3).ADV
theorem PCo.mono {α:Type} {fid:FuncId} {args:List AV} {i:Nat} {L:List Tok} {n k:Nat} {m:PM (List α)} {e z:Nat} {enc:α→List DV} (h:PCo fid args i L n m e z enc) (hk:k≤n):PCo fid args i L k m e z enc:=fun σ s hg h1 h2 h3=>h σ s hg h1 (BC h2 hk) h3
theorem PO {α:Type} {read:PM α} {t:Str} {ht:t≠[]} {n:Nat} {l:List α} {s:PSt} (hc:(s.hd.text==t)=true):(E8 read t ht (n+1) l).run s=(E8 read t ht n (l++[(read.run s.adv).1])).run (read.run s.adv).2:=if_pos hc
theorem PN {α:Type} {read:PM α} {t:Str} {ht:t≠[]} {n:Nat} {l:List α} {s:PSt} (hc:(s.hd.text==t)=false):(E8 read t ht (n+1) l).run s=(l,s):=if_neg (by rw [hc];decide)
theorem Ys {α:Type} {read:PM α} {t:Str} {ht:t≠[]}:∀(n:Nat) (l:List α) (s:PSt),WF s.r→((E8 read t ht n l).run s).1.length+((E8 read t ht n l).run s).2.r.length≤l.length+s.r.length
 |0,l,s,_=>A8 _
 |n+1,l,s,hw=>by
  cases hc:s.hd.text==t with
  |false=>rw [PN hc];exact A8 _
  |true=>
   rw [PO hc]
   have hk:s.hd.text≠[]:=by rw [beq_iff_eq] at hc;rw [hc];exact ht
   have hw1:=(TK hw (.inr hk)).1
   have h1:=read.le hw1
   have h2:=B0 hw
   have h3:=Ys (read:=read) (t:=t) (ht:=ht) n (l++[(read.run s.adv).1]) (read.run s.adv).2 (read.sf _ hw1).1
   simp only [AA,AB,AD] at h3
   omega
theorem qR {α:Type} {read:PM α} {t:Str} {ht:t≠[]} {s:PSt} (hw:WF s.r):((items read t ht).run s).1.length≤1+s.r.length:=by
 have h1:=read.le hw
 have h3:=Ys (read:=read) (t:=t) (ht:=ht) BL [(read.run s).1] (read.run s).2 (read.sf _ hw).1
 simp only [AB,AD] at h3
 show ((E8 read t ht BL [(read.run s).1]).run (read.run s).2).1.length≤_
 omega
theorem Q1 {α:Type} {read:PM α} {s:PSt} (hw:WF s.r):((listed read).run s).1.length≤1+s.r.length:=qR (read:=read) (t:=[44]) (ht:=by decide) hw
theorem U7 {α:Type} {read:PM α} {s:PSt} (hw:WF s.r):((closed read).run s).1.length≤1+s.r.length:=by
 cases hc:s.hd.text==[41] with
 |true=>
  have:(closed read).run s=([],s.adv):=if_pos hc
  rw [this];simp
 |false=>
  have:(closed read).run s=(listed read).run s:=if_neg (by rw [hc];decide)
  rw [this];exact Q1 hw
end Go.Ab
namespace Go.Ab
open Go.Proofs
theorem X0 (i:Nat) (L:List Tok) (n:Nat) {read:PM Str} {fr:FuncId} (hb:Aw Tryz.prog fr=true) (hr:PC fr [.gp i 0] i L n read (fun x:Str=>.d (.str x))) (t:Str) (ht:t≠[]):
 PCo 182 [.gp i 0,.d (.str t),.fn fr [.gp i 0] []] i L n (items read t ht) 9 1 BM:=by
 intro σ s hg h1 h2 h3
 refine RS (by simp) ?_
 rw [Hm]
 have hc:=hr σ s hg h1 h2 h3
 have h1':=h1.run read
 have hle:=read.le h1.wf
 have hit:(items read t ht).run s=(E8 read t ht BL [(read.run s).1]).run (read.run s).2:=rfl
 rw [hit]
 clear hit
 generalize read.run s=y at hc h1' hle ⊢
 obtain ⟨x,s1⟩:=y
 simp only at hc h1' hle ⊢
 skip
 (repeat' (first|refine Run.ct rfl ?_|((first|refine Run.reg mixed ?_|refine Run.AJ ?_|(refine ⟨fr,[.gp i 0],[],rfl,hb,AI.upd hc ?_ (by simp [J9])⟩)|(refine Ia.own rfl (by decide) (fun tk htk=>?_)))<;>try simp -implicitDefEqProofs only [go_sem])|fail))
 refine Run.B3 ?_
 have hf0:=Fg
 have hl0:=h1.suf.length_le
 have hl1:=h1.len
 refine Run.B6 ((fun (a0:AV) (a1:AV) (a2:AV)=>fun (y:PSt×List Str×Nat×AV×AN)=>put 0 a0 (put 1 a1 (put 2 a2 (put 7 (y.2.2.2.1) U)))) _ _ _) (fun _=>E) (fun y=>y.2.2.2.2) (fun y=>POk L y.1∧y.1.r.length≤n∧y.1.r.length≤y.2.2.1∧y.2.1.length+y.1.r.length≤17001∧LS σ i L y.1 9 1 (y.2.1.map BM) y.2.2.2.1 y.2.2.2.2∧(E8 read t ht y.2.2.1 y.2.1).run y.1=(E8 read t ht BL [x]).run s1) (fun y=>y.1.r.length) ?_ (s1,[x],BL,.own tk 9 1 _,_) ⟨h1',by simp only;omega,by simp only;omega,by simp only [AB,AD];omega,?_,rfl⟩
 rotate_left
 · simp only [AG,AH,BM]
   exact LS.lit htk
 rintro ⟨s2,l,q,v,τ⟩ ⟨g1,g2,g3,g4,g5,g6⟩ ih
 simp only at g1 g2 g3 g4 g5 g6
 obtain ⟨q,rfl⟩:∃m,q=m+1:=⟨q - 1,by have:=Aj.2 g1.wf.ne;omega⟩
 cases hcc:(s2.hd.text==t) with
 |false=>
  rw [PN hcc] at g6
  rw [← g6]
  (repeat' (first|refine Run.ct rfl ?_|((first|refine Run.reg mixed ?_|refine Run.AJ ?_|(refine AI.upd (DL g1 t τ g5.blk hcc) ?_)|(refine Run.Fq KH (AN.le_refl _) ?_))<;>try simp -implicitDefEqProofs only [g5.own.BJ,g5.own.As,if_true,go_sem])|fail))
  exact g5.fin
 |true=>
  rw [PO hcc] at g6
  have g1a:=g1.adv ht hcc
  have hal:=B0 g1.wf
  have hc:=hr (τ.AK i (psA L s2.adv)) s2.adv (g5.gt hg) g1a (by omega) (by rw [AO,if_pos rfl]:(τ.AK i (psA L s2.adv)).blk i=_)
  rw [A2] at hc
  have h1':=g1a.run read
  have hle:=read.le g1a.wf
  have hst:=g5.step (read.run s2.adv).2
  generalize read.run s2.adv=y at hc h1' hle g6 hst
  obtain ⟨x,s3⟩:=y
  simp only at hc h1' hle g6 hst
  skip
  (repeat' (first|refine Run.ct rfl ?_|((first|refine Run.reg mixed ?_|refine Run.AJ ?_|(refine AI.upd (DM g1 t τ g5.blk hcc) ?_)|(refine ⟨fr,[.gp i 0],[],rfl,hb,AI.upd hc ?_ (by simp [J9])⟩)|(refine hst.tok rfl (by simp) (by simp;omega) (by decide) (fun v2 τ2 ho=>?_)))<;>try simp -implicitDefEqProofs only [g5.own.BJ,go_sem])|fail))
  refine ih (s3,l++[x],q,v2,τ2) ⟨h1',by simp only;omega,by simp only;omega,by simp only [AA,AB,AD];omega,?_,g6⟩ (by simp only;omega)
  simp only [Bg,AG,AH,BM]
  exact ho
theorem R2 (i:Nat) (L:List Tok) (n:Nat) {read:PM TE} {fr:FuncId} (hb:Aw Tryz.prog fr=true) (hr:PC fr [.gp i 0] i L n read teA) (t:Str) (ht:t≠[]):
 PCo 196 [.gp i 0,.d (.str t),.fn fr [.gp i 0] []] i L n (items read t ht) 75 3 TE.enc:=by
 intro σ s hg h1 h2 h3
 refine Md (by simp) ?_
 rw [Hm]
 have hc:=hr σ s hg h1 h2 h3
 have h1':=h1.run read
 have hle:=read.le h1.wf
 have hit:(items read t ht).run s=(E8 read t ht BL [(read.run s).1]).run (read.run s).2:=rfl
 rw [hit]
 clear hit
 generalize read.run s=y at hc h1' hle ⊢
 obtain ⟨x,s1⟩:=y
 simp only at hc h1' hle ⊢
 obtain ⟨k0,n0,l0⟩:=x
 simp only [teA,TE.A3,AG,AH] at hc
 (repeat' (first|refine Run.ct rfl ?_|((first|refine Run.reg mixed ?_|refine Run.AJ ?_|(refine ⟨fr,[.gp i 0],[],rfl,hb,AI.upd hc ?_ (by simp [J9])⟩)|(refine Ia.own rfl (by decide) (fun tk htk=>?_)))<;>try simp -implicitDefEqProofs only [go_sem])|fail))
 refine Run.B3 ?_
 have hf0:=Fg
 have hl0:=h1.suf.length_le
 have hl1:=h1.len
 refine Run.B6 ((fun (a0:AV) (a1:AV) (a2:AV)=>fun (y:PSt×List TE×Nat×AV×AN)=>put 0 a0 (put 1 a1 (put 2 a2 (put 7 (y.2.2.2.1) U)))) _ _ _) (fun _=>E) (fun y=>y.2.2.2.2) (fun y=>POk L y.1∧y.1.r.length≤n∧y.1.r.length≤y.2.2.1∧y.2.1.length+y.1.r.length≤17001∧LS σ i L y.1 75 3 (y.2.1.map TE.enc) y.2.2.2.1 y.2.2.2.2∧(E8 read t ht y.2.2.1 y.2.1).run y.1=(E8 read t ht BL [(TE.mk k0 n0 l0)]).run s1) (fun y=>y.1.r.length) ?_ (s1,[(TE.mk k0 n0 l0)],BL,.own tk 75 3 _,_) ⟨h1',by simp only;omega,by simp only;omega,by simp only [AB,AD];omega,?_,rfl⟩
 rotate_left
 · simp only [AG,AH,TE.A3]
   exact LS.lit htk
 rintro ⟨s2,l,q,v,τ⟩ ⟨g1,g2,g3,g4,g5,g6⟩ ih
 simp only at g1 g2 g3 g4 g5 g6
 obtain ⟨q,rfl⟩:∃m,q=m+1:=⟨q - 1,by have:=Aj.2 g1.wf.ne;omega⟩
 cases hcc:(s2.hd.text==t) with
 |false=>
  rw [PN hcc] at g6
  rw [← g6]
  (repeat' (first|refine Run.ct rfl ?_|((first|refine Run.reg mixed ?_|refine Run.AJ ?_|(refine AI.upd (DL g1 t τ g5.blk hcc) ?_)|(refine Run.Fq Gx (AN.le_refl _) ?_))<;>try simp -implicitDefEqProofs only [g5.own.BJ,g5.own.As,if_true,go_sem])|fail))
  exact g5.fin
 |true=>
  rw [PO hcc] at g6
  have g1a:=g1.adv ht hcc
  have hal:=B0 g1.wf
  have hc:=hr (τ.AK i (psA L s2.adv)) s2.adv (g5.gt hg) g1a (by omega) (by rw [AO,if_pos rfl]:(τ.AK i (psA L s2.adv)).blk i=_)
  rw [A2] at hc
  have h1':=g1a.run read
  have hle:=read.le g1a.wf
  have hst:=g5.step (read.run s2.adv).2
  generalize read.run s2.adv=y at hc h1' hle g6 hst
  obtain ⟨x,s3⟩:=y
  simp only at hc h1' hle g6 hst
  obtain ⟨k0,n0,l0⟩:=x
  simp only [teA,TE.A3,AG,AH] at hc
  (repeat' (first|refine Run.ct rfl ?_|((first|refine Run.reg mixed ?_|refine Run.AJ ?_|(refine AI.upd (DM g1 t τ g5.blk hcc) ?_)|(refine ⟨fr,[.gp i 0],[],rfl,hb,AI.upd hc ?_ (by simp [J9])⟩)|(refine hst.tok rfl (by simp) (by simp;omega) (by decide) (fun v2 τ2 ho=>?_)))<;>try simp -implicitDefEqProofs only [g5.own.BJ,go_sem])|fail))
  refine ih (s3,l++[(TE.mk k0 n0 l0)],q,v2,τ2) ⟨h1',by simp only;omega,by simp only;omega,by simp only [AA,AB,AD];omega,?_,g6⟩ (by simp only;omega)
  simp only [Bg,AG,AH,TE.A3]
  exact ho
theorem Sa (i:Nat) (L:List Tok) (n:Nat) {read:PM CE} {fr:FuncId} (hb:Aw Tryz.prog fr=true) (hr:PC fr [.gp i 0] i L n read ceA) (t:Str) (ht:t≠[]):
 PCo 128 [.gp i 0,.d (.str t),.fn fr [.gp i 0] []] i L n (items read t ht) 72 2 CE.enc:=by
 intro σ s hg h1 h2 h3
 refine NR (by simp) ?_
 rw [Hm]
 have hc:=hr σ s hg h1 h2 h3
 have h1':=h1.run read
 have hle:=read.le h1.wf
 have hit:(items read t ht).run s=(E8 read t ht BL [(read.run s).1]).run (read.run s).2:=rfl
 rw [hit]
 clear hit
 generalize read.run s=y at hc h1' hle ⊢
 obtain ⟨x,s1⟩:=y
 simp only at hc h1' hle ⊢
 obtain ⟨n0,l0⟩:=x
 simp only [ceA,CE.enc,AG,AH] at hc
 (repeat' (first|refine Run.ct rfl ?_|((first|refine Run.reg mixed ?_|refine Run.AJ ?_|(refine ⟨fr,[.gp i 0],[],rfl,hb,AI.upd hc ?_ (by simp [J9])⟩)|(refine Ia.own rfl (by decide) (fun tk htk=>?_)))<;>try simp -implicitDefEqProofs only [go_sem])|fail))
 refine Run.B3 ?_
 have hf0:=Fg
 have hl0:=h1.suf.length_le
 have hl1:=h1.len
 refine Run.B6 ((fun (a0:AV) (a1:AV) (a2:AV)=>fun (y:PSt×List CE×Nat×AV×AN)=>put 0 a0 (put 1 a1 (put 2 a2 (put 7 (y.2.2.2.1) U)))) _ _ _) (fun _=>E) (fun y=>y.2.2.2.2) (fun y=>POk L y.1∧y.1.r.length≤n∧y.1.r.length≤y.2.2.1∧y.2.1.length+y.1.r.length≤17001∧LS σ i L y.1 72 2 (y.2.1.map CE.enc) y.2.2.2.1 y.2.2.2.2∧(E8 read t ht y.2.2.1 y.2.1).run y.1=(E8 read t ht BL [(CE.mk n0 l0)]).run s1) (fun y=>y.1.r.length) ?_ (s1,[(CE.mk n0 l0)],BL,.own tk 72 2 _,_) ⟨h1',by simp only;omega,by simp only;omega,by simp only [AB,AD];omega,?_,rfl⟩
 rotate_left
 · simp only [AG,AH,CE.enc]
   exact LS.lit htk
 rintro ⟨s2,l,q,v,τ⟩ ⟨g1,g2,g3,g4,g5,g6⟩ ih
 simp only at g1 g2 g3 g4 g5 g6
 obtain ⟨q,rfl⟩:∃m,q=m+1:=⟨q - 1,by have:=Aj.2 g1.wf.ne;omega⟩
 cases hcc:(s2.hd.text==t) with
 |false=>
  rw [PN hcc] at g6
  rw [← g6]
  (repeat' (first|refine Run.ct rfl ?_|((first|refine Run.reg mixed ?_|refine Run.AJ ?_|(refine AI.upd (DL g1 t τ g5.blk hcc) ?_)|(refine Run.Fq HO (AN.le_refl _) ?_))<;>try simp -implicitDefEqProofs only [g5.own.BJ,g5.own.As,if_true,go_sem])|fail))
  exact g5.fin
 |true=>
  rw [PO hcc] at g6
  have g1a:=g1.adv ht hcc
  have hal:=B0 g1.wf
  have hc:=hr (τ.AK i (psA L s2.adv)) s2.adv (g5.gt hg) g1a (by omega) (by rw [AO,if_pos rfl]:(τ.AK i (psA L s2.adv)).blk i=_)
  rw [A2] at hc
  have h1':=g1a.run read
  have hle:=read.le g1a.wf
  have hst:=g5.step (read.run s2.adv).2
  generalize read.run s2.adv=y at hc h1' hle g6 hst
  obtain ⟨x,s3⟩:=y
  simp only at hc h1' hle g6 hst
  obtain ⟨n0,l0⟩:=x
  simp only [ceA,CE.enc,AG,AH] at hc
  (repeat' (first|refine Run.ct rfl ?_|((first|refine Run.reg mixed ?_|refine Run.AJ ?_|(refine AI.upd (DM g1 t τ g5.blk hcc) ?_)|(refine ⟨fr,[.gp i 0],[],rfl,hb,AI.upd hc ?_ (by simp [J9])⟩)|(refine hst.tok rfl (by simp) (by simp;omega) (by decide) (fun v2 τ2 ho=>?_)))<;>try simp -implicitDefEqProofs only [g5.own.BJ,go_sem])|fail))
  refine ih (s3,l++[(CE.mk n0 l0)],q,v2,τ2) ⟨h1',by simp only;omega,by simp only;omega,by simp only [AA,AB,AD];omega,?_,g6⟩ (by simp only;omega)
  simp only [Bg,AG,AH,CE.enc]
  exact ho
theorem V7 (i:Nat) (L:List Tok) (n:Nat) {read:PM Ex} {fr:FuncId} (hb:Aw Tryz.prog fr=true) (hr:PC fr [.gp i 0] i L n read exA) (t:Str) (ht:t≠[]):
 PCo 216 [.gp i 0,.d (.str t),.fn fr [.gp i 0] []] i L n (items read t ht) 44 6 Ex.enc:=by
 intro σ s hg h1 h2 h3
 refine PG (by simp) ?_
 rw [Hm]
 have hc:=hr σ s hg h1 h2 h3
 have h1':=h1.run read
 have hle:=read.le h1.wf
 have hit:(items read t ht).run s=(E8 read t ht BL [(read.run s).1]).run (read.run s).2:=rfl
 rw [hit]
 clear hit
 generalize read.run s=y at hc h1' hle ⊢
 obtain ⟨x,s1⟩:=y
 simp only at hc h1' hle ⊢
 obtain ⟨o0,n0,u0,ns0,ks0,al0⟩:=x
 simp only [exA,Ex.A3,AG,AH] at hc
 (repeat' (first|refine Run.ct rfl ?_|((first|refine Run.reg mixed ?_|refine Run.AJ ?_|(refine ⟨fr,[.gp i 0],[],rfl,hb,AI.upd hc ?_ (by simp [J9])⟩)|(refine Ia.own rfl (by decide) (fun tk htk=>?_)))<;>try simp -implicitDefEqProofs only [go_sem])|fail))
 refine Run.B3 ?_
 have hf0:=Fg
 have hl0:=h1.suf.length_le
 have hl1:=h1.len
 refine Run.B6 ((fun (a0:AV) (a1:AV) (a2:AV)=>fun (y:PSt×List Ex×Nat×AV×AN)=>put 0 a0 (put 1 a1 (put 2 a2 (put 7 (y.2.2.2.1) U)))) _ _ _) (fun _=>E) (fun y=>y.2.2.2.2) (fun y=>POk L y.1∧y.1.r.length≤n∧y.1.r.length≤y.2.2.1∧y.2.1.length+y.1.r.length≤17001∧LS σ i L y.1 44 6 (y.2.1.map Ex.enc) y.2.2.2.1 y.2.2.2.2∧(E8 read t ht y.2.2.1 y.2.1).run y.1=(E8 read t ht BL [(Ex.mk o0 n0 u0 ns0 ks0 al0)]).run s1) (fun y=>y.1.r.length) ?_ (s1,[(Ex.mk o0 n0 u0 ns0 ks0 al0)],BL,.own tk 44 6 _,_) ⟨h1',by simp only;omega,by simp only;omega,by simp only [AB,AD];omega,?_,rfl⟩
 rotate_left
 · simp only [AG,AH,Ex.A3]
   exact LS.lit htk
 rintro ⟨s2,l,q,v,τ⟩ ⟨g1,g2,g3,g4,g5,g6⟩ ih
 simp only at g1 g2 g3 g4 g5 g6
 obtain ⟨q,rfl⟩:∃m,q=m+1:=⟨q - 1,by have:=Aj.2 g1.wf.ne;omega⟩
 cases hcc:(s2.hd.text==t) with
 |false=>
  rw [PN hcc] at g6
  rw [← g6]
  (repeat' (first|refine Run.ct rfl ?_|((first|refine Run.reg mixed ?_|refine Run.AJ ?_|(refine AI.upd (DL g1 t τ g5.blk hcc) ?_)|(refine Run.Fq Ik (AN.le_refl _) ?_))<;>try simp -implicitDefEqProofs only [g5.own.BJ,g5.own.As,if_true,go_sem])|fail))
  exact g5.fin
 |true=>
  rw [PO hcc] at g6
  have g1a:=g1.adv ht hcc
  have hal:=B0 g1.wf
  have hc:=hr (τ.AK i (psA L s2.adv)) s2.adv (g5.gt hg) g1a (by omega) (by rw [AO,if_pos rfl]:(τ.AK i (psA L s2.adv)).blk i=_)
  rw [A2] at hc
  have h1':=g1a.run read
  have hle:=read.le g1a.wf
  have hst:=g5.step (read.run s2.adv).2
  generalize read.run s2.adv=y at hc h1' hle g6 hst
  obtain ⟨x,s3⟩:=y
  simp only at hc h1' hle g6 hst
  obtain ⟨o0,n0,u0,ns0,ks0,al0⟩:=x
  simp only [exA,Ex.A3,AG,AH] at hc
  (repeat' (first|refine Run.ct rfl ?_|((first|refine Run.reg mixed ?_|refine Run.AJ ?_|(refine AI.upd (DM g1 t τ g5.blk hcc) ?_)|(refine ⟨fr,[.gp i 0],[],rfl,hb,AI.upd hc ?_ (by simp [J9])⟩)|(refine hst.tok rfl (by simp) (by simp;omega) (by decide) (fun v2 τ2 ho=>?_)))<;>try simp -implicitDefEqProofs only [g5.own.BJ,go_sem])|fail))
  refine ih (s3,l++[(Ex.mk o0 n0 u0 ns0 ks0 al0)],q,v2,τ2) ⟨h1',by simp only;omega,by simp only;omega,by simp only [AA,AB,AD];omega,?_,g6⟩ (by simp only;omega)
  simp only [Bg,AG,AH,Ex.A3]
  exact ho
theorem WQ (i:Nat) (L:List Tok) (n:Nat) {read:PM Al} {fr:FuncId} (hb:Aw Tryz.prog fr=true) (hr:PC fr [.gp i 0] i L n read alA) (t:Str) (ht:t≠[]):
 PCo 170 [.gp i 0,.d (.str t),.fn fr [.gp i 0] []] i L n (items read t ht) 112 8 Al.enc:=by
 intro σ s hg h1 h2 h3
 refine QM (by simp) ?_
 rw [Hm]
 have hc:=hr σ s hg h1 h2 h3
 have h1':=h1.run read
 have hle:=read.le h1.wf
 have hit:(items read t ht).run s=(E8 read t ht BL [(read.run s).1]).run (read.run s).2:=rfl
 rw [hit]
 clear hit
 generalize read.run s=y at hc h1' hle ⊢
 obtain ⟨x,s1⟩:=y
 simp only at hc h1' hle ⊢
 obtain ⟨c0,vs0,⟨o0,n0,u0,ns0,ks0,al0⟩⟩:=x
 simp only [alA,Al.A3,AG,AH] at hc
 (repeat' (first|refine Run.ct rfl ?_|((first|refine Run.reg mixed ?_|refine Run.AJ ?_|(refine ⟨fr,[.gp i 0],[],rfl,hb,AI.upd hc ?_ (by simp [J9])⟩)|(refine Ia.own rfl (by decide) (fun tk htk=>?_)))<;>try simp -implicitDefEqProofs only [go_sem])|fail))
 refine Run.B3 ?_
 have hf0:=Fg
 have hl0:=h1.suf.length_le
 have hl1:=h1.len
 refine Run.B6 ((fun (a0:AV) (a1:AV) (a2:AV)=>fun (y:PSt×List Al×Nat×AV×AN)=>put 0 a0 (put 1 a1 (put 2 a2 (put 7 (y.2.2.2.1) U)))) _ _ _) (fun _=>E) (fun y=>y.2.2.2.2) (fun y=>POk L y.1∧y.1.r.length≤n∧y.1.r.length≤y.2.2.1∧y.2.1.length+y.1.r.length≤17001∧LS σ i L y.1 112 8 (y.2.1.map Al.enc) y.2.2.2.1 y.2.2.2.2∧(E8 read t ht y.2.2.1 y.2.1).run y.1=(E8 read t ht BL [(Al.mk c0 vs0 (.mk o0 n0 u0 ns0 ks0 al0))]).run s1) (fun y=>y.1.r.length) ?_ (s1,[(Al.mk c0 vs0 (.mk o0 n0 u0 ns0 ks0 al0))],BL,.own tk 112 8 _,_) ⟨h1',by simp only;omega,by simp only;omega,by simp only [AB,AD];omega,?_,rfl⟩
 rotate_left
 · simp only [AG,AH,Al.A3]
   exact LS.lit htk
 rintro ⟨s2,l,q,v,τ⟩ ⟨g1,g2,g3,g4,g5,g6⟩ ih
 simp only at g1 g2 g3 g4 g5 g6
 obtain ⟨q,rfl⟩:∃m,q=m+1:=⟨q - 1,by have:=Aj.2 g1.wf.ne;omega⟩
 cases hcc:(s2.hd.text==t) with
 |false=>
  rw [PN hcc] at g6
  rw [← g6]
  (repeat' (first|refine Run.ct rfl ?_|((first|refine Run.reg mixed ?_|refine Run.AJ ?_|(refine AI.upd (DL g1 t τ g5.blk hcc) ?_)|(refine Run.Fq JY (AN.le_refl _) ?_))<;>try simp -implicitDefEqProofs only [g5.own.BJ,g5.own.As,if_true,go_sem])|fail))
  exact g5.fin
 |true=>
  rw [PO hcc] at g6
  have g1a:=g1.adv ht hcc
  have hal:=B0 g1.wf
  have hc:=hr (τ.AK i (psA L s2.adv)) s2.adv (g5.gt hg) g1a (by omega) (by rw [AO,if_pos rfl]:(τ.AK i (psA L s2.adv)).blk i=_)
  rw [A2] at hc
  have h1':=g1a.run read
  have hle:=read.le g1a.wf
  have hst:=g5.step (read.run s2.adv).2
  generalize read.run s2.adv=y at hc h1' hle g6 hst
  obtain ⟨x,s3⟩:=y
  simp only at hc h1' hle g6 hst
  obtain ⟨c0,vs0,⟨o0,n0,u0,ns0,ks0,al0⟩⟩:=x
  simp only [alA,Al.A3,AG,AH] at hc
  (repeat' (first|refine Run.ct rfl ?_|((first|refine Run.reg mixed ?_|refine Run.AJ ?_|(refine AI.upd (DM g1 t τ g5.blk hcc) ?_)|(refine ⟨fr,[.gp i 0],[],rfl,hb,AI.upd hc ?_ (by simp [J9])⟩)|(refine hst.tok rfl (by simp) (by simp;omega) (by decide) (fun v2 τ2 ho=>?_)))<;>try simp -implicitDefEqProofs only [g5.own.BJ,go_sem])|fail))
  refine ih (s3,l++[(Al.mk c0 vs0 (.mk o0 n0 u0 ns0 ks0 al0))],q,v2,τ2) ⟨h1',by simp only;omega,by simp only;omega,by simp only [AA,AB,AD];omega,?_,g6⟩ (by simp only;omega)
  simp only [Bg,AG,AH,Al.A3]
  exact ho
theorem Ha (i:Nat) (L:List Tok) (n:Nat) {read:PM Str} {fr:FuncId} (hb:Aw Tryz.prog fr=true) (hr:PC fr [.gp i 0] i L n read (fun x:Str=>.d (.str x))):
 PCo 166 [.gp i 0,.fn fr [.gp i 0] []] i L n (listed read) 9 1 BM:=by
 intro σ s hg h1 h2 h3
 refine QN (by simp) ?_
 rw [BP]
 have hc:=X0 i L n hb hr [44] (by decide) σ s hg h1 h2 h3
 have hr2:(listed read).run s=(((items read [44] (by decide)).run s).1,((PM.exp [41] (by decide)).run ((items read [44] (by decide)).run s).2).2):=rfl
 rw [hr2]
 (repeat' (first|refine Run.ct rfl ?_|((first|refine Run.reg mixed ?_|refine Run.AJ ?_|(refine AI.mk rfl hc ?_;intro v σ1 ho;have hl:=LS.of ho))<;>try simp -implicitDefEqProofs only [go_sem])|fail))
 (repeat' (first|refine Run.ct rfl ?_|((first|refine Run.reg mixed ?_|refine Run.AJ ?_|(refine AI.upd (U8 (h1.run _) [41] (by decide) σ1 hl.blk) ?_)|(refine Run.Fq JZ (AN.le_refl _) ?_))<;>try simp -implicitDefEqProofs only [ho.BJ,ho.As,if_true,go_sem])|fail))
 exact (hl.step _).fin
theorem Ow (i:Nat) (L:List Tok) (n:Nat) {read:PM Str} {fr:FuncId} (hb:Aw Tryz.prog fr=true) (hr:PC fr [.gp i 0] i L n read (fun x:Str=>.d (.str x))):
 PCo 130 [.gp i 0,.fn fr [.gp i 0] []] i L n (closed read) 9 1 BM:=by
 intro σ s hg h1 h2 h3
 refine QL (by simp) ?_
 rw [BP]
 cases hcc:(s.hd.text==[41]) with
 |true=>
  have hr2:(closed read).run s=([],s.adv):=if_pos hcc
  rw [hr2]
  (repeat' (first|refine Run.ct rfl ?_|((first|refine Run.reg mixed ?_|refine Run.AJ ?_|refine Run.Fq GQ (AN.le_refl _) ?_|(refine AI.upd (DM h1 _ σ h3 hcc) ?_))<;>try simp -implicitDefEqProofs only [go_sem])|fail))
  exact D8.nil _ _ _
 |false=>
  have hr2:(closed read).run s=(listed read).run s:=if_neg (by rw [hcc];decide)
  rw [hr2]
  (repeat' (first|refine Run.ct rfl ?_|((first|refine Run.reg mixed ?_|refine Run.AJ ?_|(refine AI.upd (DL h1 _ σ h3 hcc) ?_)|(refine AI.mk rfl (Ha i L n hb hr σ s hg h1 h2 h3) ?_;intro v σ1 ho)|(refine Run.Fq GQ (AN.le_refl _) ?_))<;>try simp -implicitDefEqProofs only [go_sem])|fail))
  rw [if_pos ho.As]
  exact ho
theorem PV (i:Nat) (L:List Tok) (n:Nat) {read:PM Str} {fr:FuncId} (hb:Aw Tryz.prog fr=true) (hr:PC fr [.gp i 0] i L n read (fun x:Str=>.d (.str x))):
 PCo 125 [.gp i 0,.fn fr [.gp i 0] []] i L (n+1) (I6 read) 9 1 BM:=by
 intro σ s hg h1 h2 h3
 refine QQ (by simp) ?_
 rw [BP]
 cases hcc:(s.hd.text==[40]) with
 |true=>
  have hr2:(I6 read).run s=(listed read).run s.adv:=if_pos hcc
  rw [hr2]
  have hal:=B0 h1.wf
  have hc:=Ha i L n hb hr (σ.AK i (psA L s.adv)) s.adv hg (h1.adv (by decide) hcc) (by omega) (by rw [AO,if_pos rfl])
  rw [A2] at hc
  (repeat' (first|refine Run.ct rfl ?_|((first|refine Run.reg mixed ?_|refine Run.AJ ?_|(refine AI.upd (DM h1 _ σ h3 hcc) ?_)|(refine AI.mk rfl hc ?_;intro v σ1 ho)|(refine Run.Fq GS (AN.le_refl _) ?_))<;>try simp -implicitDefEqProofs only [go_sem])|fail))
  rw [if_pos ho.As]
  exact ho
 |false=>
  have hr2:(I6 read).run s=([],s):=if_neg (by rw [hcc];decide)
  rw [hr2]
  (repeat' (first|refine Run.ct rfl ?_|((first|refine Run.reg mixed ?_|refine Run.AJ ?_|refine Run.Fq GS (AN.le_refl _) ?_|(refine AI.upd (DL h1 _ σ h3 hcc) ?_))<;>try simp -implicitDefEqProofs only [go_sem])|fail))
  have:=D8.nil (σ.AK i (psA L s)) 9 1
  rwa [Iv h3] at this ⊢
theorem Em (i:Nat) (L:List Tok) (n:Nat) {read:PM TE} {fr:FuncId} (hb:Aw Tryz.prog fr=true) (hr:PC fr [.gp i 0] i L n read teA):
 PCo 183 [.gp i 0,.fn fr [.gp i 0] []] i L n (listed read) 75 3 TE.enc:=by
 intro σ s hg h1 h2 h3
 refine Lu (by simp) ?_
 rw [BP]
 have hc:=R2 i L n hb hr [44] (by decide) σ s hg h1 h2 h3
 have hr2:(listed read).run s=(((items read [44] (by decide)).run s).1,((PM.exp [41] (by decide)).run ((items read [44] (by decide)).run s).2).2):=rfl
 rw [hr2]
 (repeat' (first|refine Run.ct rfl ?_|((first|refine Run.reg mixed ?_|refine Run.AJ ?_|(refine AI.mk rfl hc ?_;intro v σ1 ho;have hl:=LS.of ho))<;>try simp -implicitDefEqProofs only [go_sem])|fail))
 (repeat' (first|refine Run.ct rfl ?_|((first|refine Run.reg mixed ?_|refine Run.AJ ?_|(refine AI.upd (U8 (h1.run _) [41] (by decide) σ1 hl.blk) ?_)|(refine Run.Fq Gb (AN.le_refl _) ?_))<;>try simp -implicitDefEqProofs only [ho.BJ,ho.As,if_true,go_sem])|fail))
 exact (hl.step _).fin
theorem QB (i:Nat) (L:List Tok) (n:Nat) {read:PM TE} {fr:FuncId} (hb:Aw Tryz.prog fr=true) (hr:PC fr [.gp i 0] i L n read teA):
 PCo 185 [.gp i 0,.fn fr [.gp i 0] []] i L n (closed read) 75 3 TE.enc:=by
 intro σ s hg h1 h2 h3
 refine Lt (by simp) ?_
 rw [BP]
 cases hcc:(s.hd.text==[41]) with
 |true=>
  have hr2:(closed read).run s=([],s.adv):=if_pos hcc
  rw [hr2]
  (repeat' (first|refine Run.ct rfl ?_|((first|refine Run.reg mixed ?_|refine Run.AJ ?_|refine Run.Fq E6 (AN.le_refl _) ?_|(refine AI.upd (DM h1 _ σ h3 hcc) ?_))<;>try simp -implicitDefEqProofs only [go_sem])|fail))
  exact D8.nil _ _ _
 |false=>
  have hr2:(closed read).run s=(listed read).run s:=if_neg (by rw [hcc];decide)
  rw [hr2]
  (repeat' (first|refine Run.ct rfl ?_|((first|refine Run.reg mixed ?_|refine Run.AJ ?_|(refine AI.upd (DL h1 _ σ h3 hcc) ?_)|(refine AI.mk rfl (Em i L n hb hr σ s hg h1 h2 h3) ?_;intro v σ1 ho)|(refine Run.Fq E6 (AN.le_refl _) ?_))<;>try simp -implicitDefEqProofs only [go_sem])|fail))
  rw [if_pos ho.As]
  exact ho
theorem Ja (i:Nat) (L:List Tok) (n:Nat) {read:PM TE} {fr:FuncId} (hb:Aw Tryz.prog fr=true) (hr:PC fr [.gp i 0] i L n read teA):
 PCo 167 [.gp i 0,.fn fr [.gp i 0] []] i L (n+1) (I6 read) 75 3 TE.enc:=by
 intro σ s hg h1 h2 h3
 refine Lv (by simp) ?_
 rw [BP]
 cases hcc:(s.hd.text==[40]) with
 |true=>
  have hr2:(I6 read).run s=(listed read).run s.adv:=if_pos hcc
  rw [hr2]
  have hal:=B0 h1.wf
  have hc:=Em i L n hb hr (σ.AK i (psA L s.adv)) s.adv hg (h1.adv (by decide) hcc) (by omega) (by rw [AO,if_pos rfl])
  rw [A2] at hc
  (repeat' (first|refine Run.ct rfl ?_|((first|refine Run.reg mixed ?_|refine Run.AJ ?_|(refine AI.upd (DM h1 _ σ h3 hcc) ?_)|(refine AI.mk rfl hc ?_;intro v σ1 ho)|(refine Run.Fq E7 (AN.le_refl _) ?_))<;>try simp -implicitDefEqProofs only [go_sem])|fail))
  rw [if_pos ho.As]
  exact ho
 |false=>
  have hr2:(I6 read).run s=([],s):=if_neg (by rw [hcc];decide)
  rw [hr2]
  (repeat' (first|refine Run.ct rfl ?_|((first|refine Run.reg mixed ?_|refine Run.AJ ?_|refine Run.Fq E7 (AN.le_refl _) ?_|(refine AI.upd (DL h1 _ σ h3 hcc) ?_))<;>try simp -implicitDefEqProofs only [go_sem])|fail))
  have:=D8.nil (σ.AK i (psA L s)) 75 3
  rwa [Iv h3] at this ⊢
theorem GX (i:Nat) (L:List Tok) (n:Nat) {read:PM Ex} {fr:FuncId} (hb:Aw Tryz.prog fr=true) (hr:PC fr [.gp i 0] i L n read exA):
 PCo 214 [.gp i 0,.fn fr [.gp i 0] []] i L n (listed read) 44 6 Ex.enc:=by
 intro σ s hg h1 h2 h3
 refine O1 (by simp) ?_
 rw [BP]
 have hc:=V7 i L n hb hr [44] (by decide) σ s hg h1 h2 h3
 have hr2:(listed read).run s=(((items read [44] (by decide)).run s).1,((PM.exp [41] (by decide)).run ((items read [44] (by decide)).run s).2).2):=rfl
 rw [hr2]
 (repeat' (first|refine Run.ct rfl ?_|((first|refine Run.reg mixed ?_|refine Run.AJ ?_|(refine AI.mk rfl hc ?_;intro v σ1 ho;have hl:=LS.of ho))<;>try simp -implicitDefEqProofs only [go_sem])|fail))
 (repeat' (first|refine Run.ct rfl ?_|((first|refine Run.reg mixed ?_|refine Run.AJ ?_|(refine AI.upd (U8 (h1.run _) [41] (by decide) σ1 hl.blk) ?_)|(refine Run.Fq IF (AN.le_refl _) ?_))<;>try simp -implicitDefEqProofs only [ho.BJ,ho.As,if_true,go_sem])|fail))
 exact (hl.step _).fin
theorem U6 (i:Nat) (L:List Tok) (n:Nat) {read:PM Ex} {fr:FuncId} (hb:Aw Tryz.prog fr=true) (hr:PC fr [.gp i 0] i L n read exA):
 PCo 208 [.gp i 0,.fn fr [.gp i 0] []] i L n (closed read) 44 6 Ex.enc:=by
 intro σ s hg h1 h2 h3
 refine O0 (by simp) ?_
 rw [BP]
 cases hcc:(s.hd.text==[41]) with
 |true=>
  have hr2:(closed read).run s=([],s.adv):=if_pos hcc
  rw [hr2]
  (repeat' (first|refine Run.ct rfl ?_|((first|refine Run.reg mixed ?_|refine Run.AJ ?_|refine Run.Fq FY (AN.le_refl _) ?_|(refine AI.upd (DM h1 _ σ h3 hcc) ?_))<;>try simp -implicitDefEqProofs only [go_sem])|fail))
  exact D8.nil _ _ _
 |false=>
  have hr2:(closed read).run s=(listed read).run s:=if_neg (by rw [hcc];decide)
  rw [hr2]
  (repeat' (first|refine Run.ct rfl ?_|((first|refine Run.reg mixed ?_|refine Run.AJ ?_|(refine AI.upd (DL h1 _ σ h3 hcc) ?_)|(refine AI.mk rfl (GX i L n hb hr σ s hg h1 h2 h3) ?_;intro v σ1 ho)|(refine Run.Fq FY (AN.le_refl _) ?_))<;>try simp -implicitDefEqProofs only [go_sem])|fail))
  rw [if_pos ho.As]
  exact ho
theorem Uj (i:Nat) (L:List Tok) (n:Nat) {read:PM Ex} {fr:FuncId} (hb:Aw Tryz.prog fr=true) (hr:PC fr [.gp i 0] i L n read exA):
 PCo 210 [.gp i 0,.fn fr [.gp i 0] []] i L (n+1) (I6 read) 44 6 Ex.enc:=by
 intro σ s hg h1 h2 h3
 refine O2 (by simp) ?_
 rw [BP]
 cases hcc:(s.hd.text==[40]) with
 |true=>
  have hr2:(I6 read).run s=(listed read).run s.adv:=if_pos hcc
  rw [hr2]
  have hal:=B0 h1.wf
  have hc:=GX i L n hb hr (σ.AK i (psA L s.adv)) s.adv hg (h1.adv (by decide) hcc) (by omega) (by rw [AO,if_pos rfl])
  rw [A2] at hc
  (repeat' (first|refine Run.ct rfl ?_|((first|refine Run.reg mixed ?_|refine Run.AJ ?_|(refine AI.upd (DM h1 _ σ h3 hcc) ?_)|(refine AI.mk rfl hc ?_;intro v σ1 ho)|(refine Run.Fq FZ (AN.le_refl _) ?_))<;>try simp -implicitDefEqProofs only [go_sem])|fail))
  rw [if_pos ho.As]
  exact ho
 |false=>
  have hr2:(I6 read).run s=([],s):=if_neg (by rw [hcc];decide)
  rw [hr2]
  (repeat' (first|refine Run.ct rfl ?_|((first|refine Run.reg mixed ?_|refine Run.AJ ?_|refine Run.Fq FZ (AN.le_refl _) ?_|(refine AI.upd (DL h1 _ σ h3 hcc) ?_))<;>try simp -implicitDefEqProofs only [go_sem])|fail))
  have:=D8.nil (σ.AK i (psA L s)) 44 6
  rwa [Iv h3] at this ⊢
end Go.Ab
