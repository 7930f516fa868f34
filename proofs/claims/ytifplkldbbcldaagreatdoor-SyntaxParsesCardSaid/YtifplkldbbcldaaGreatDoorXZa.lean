/- The reference's parser: its state in memory; its steps over single tokens. The reference's parser: rows that it builds. Texts split into tokens, as the reference does it. Conditions: none. -/
import Derived.Test.YtifplkldbbcldaaGreatDoorXPf
set_option linter.unusedSimpArgs false
set_option linter.unusedVariables false
set_option maxRecDepth 4000
set_option maxHeartbeats 8000000
open List renaming getElem?_eq_some_iff→A3,length_append→AA,length_cons→AG,length_nil→AI,getElem?_drop→BM,getElem?_eq_none→Jq,length_drop→Ah,drop_take→Ks,drop_drop→DC,mem_singleton→JC,length_take→Bj,length_eq_zero_iff→OE,drop_length→Ra
open Bool renaming and_eq_true→AR,not_eq_true'→CZ,false_eq_true→AL,not_eq_true→R9,and_true→BR,and_false→G6,eq_iff_iff→Ds
open Nat renaming le_trans→Ay,le_refl→A4,lt_or_ge→Ea,add_zero→E9
namespace Go.Ab
open Go.Proofs
variable {P:Program}
def rsA (L:List Tok) (s:RSt):List AV:=[.d (Pv L),.d (.int .i64 ((L.length - s.r.length:Nat):Int)),.d (.bool s.b)]
structure ROk (L:List Tok) (s:RSt):Prop where
 wf:WF s.r
 suf:s.r <:+L
 len:L.length≤17000
theorem ROk.run {α:Type} {L:List Tok} {s:RSt} (h:ROk L s) (m:RM α):ROk L (m.run s).2:=⟨(m.sf s h.wf).1,(m.sf s h.wf).2.trans h.suf,h.len⟩
theorem RM.le {α:Type} {s:RSt} (m:RM α) (h:WF s.r):(m.run s).2.r.length≤s.r.length:=(m.sf s h).2.length_le
theorem ROk.at {L:List Tok} {s:RSt} (h:ROk L s):(L.map Tok.enc)[L.length - s.r.length]?=some [.int .i64 s.hd.kind,.str s.hd.text,.int .i64 ((s.hd.pos:Nat):Int)]:=
 POk.at (s:=⟨s.r,false,0⟩) ⟨h.wf,h.suf,h.len⟩
theorem ROk.yJ {L:List Tok} {s:RSt} (h:ROk L s) (hk:s.hd.kind≠6):ROk L s.adv:=by
 obtain ⟨h1,h2⟩:=Yu h.wf (.inl hk)
 exact ⟨h1,h2.trans h.suf,h.len⟩
theorem ROk.adv {L:List Tok} {s:RSt} (h:ROk L s) {t:Str} (_:True) (hc:s.is t=true):ROk L s.adv:=h.yJ (by have:=(RSt.Vr hc).2.1;omega)
theorem ROk.bad {L:List Tok} {s:RSt} (h:ROk L s):ROk L ⟨s.r,true⟩:=⟨h.wf,h.suf,h.len⟩
theorem Am {s:RSt} (h:WF s.r):s.adv.r.length+1=s.r.length:=BW (s:=⟨s.r,false,0⟩) h
theorem ROk.idx {L:List Tok} {s:RSt} (h:ROk L s):L.length - s.adv.r.length=(L.length - s.r.length)+1∧L.length - s.r.length≤17000:=by
 have h1:=Am h.wf
 have h2:=h.suf.length_le
 have h3:=h.len
 omega
theorem Ys {L:List Tok} {s:RSt} (h:ROk L s):rsA L s.adv=[.d (Pv L),.d (.int .i64 (((L.length - s.r.length)+1:Nat):Int)),.d (.bool s.b)]:=by
 unfold rsA;rw [h.idx.1];rfl
section
variable {L:List Tok} {i:Nat} {s:RSt}
theorem VL (hs:ROk L s) (t:Str) (σ:AK) (hb:σ.blk i=some (rsA L s)):AP Tryz.prog 75 [.gp i 0,.d (.str t)] σ (fun v σ'=>v= .d (.bool (s.is t))∧σ'=σ):=by
 refine Zi (by simp) ?_
 rw [BH]
 have hat:=hs.at
 unfold rsA Pv at hb
 have hix:((L.length - s.r.length:Nat):Int) < ((L.map Tok.enc).length:Int):=by
  have:=(A3.1 hat).1;omega
 unfold RSt.is
 cases h1:s.b<;>cases h2:(s.hd.kind==4)<;>cases h3:(s.hd.kind==5)<;>cases h4:(s.hd.text==t)
 all_goals rw [h1] at hb
 all_goals (repeat' (first|refine ctQ rfl ?_|((first|refine rgQ mxQ ?_|refine cdQ ?_|refine Run.A2 S9 (AK.le_refl _) ?_)<;>try simp -implicitDefEqProofs only [hb,hat,Jl,h2,h3,h4,go_sem])|fail))
 all_goals rfl
theorem CU (hs:ROk L s) (t:Str) (σ:AK) (hb:σ.blk i=some (rsA L s)) (hc:s.is t=true):AP Tryz.prog 30 [.gp i 0,.d (.str t)] σ (fun v σ'=>v= .d (.bool true)∧σ'=σ.AH i (rsA L s.adv)):=by
 refine PJ (by simp) ?_
 rw [BH,Ys hs]
 have his:=VL hs t σ hb
 rw [hc] at his
 have hw:=BV (a:=L.length - s.r.length) (by have:=hs.idx.2;omega)
 unfold rsA at hb
 (repeat' (first|refine ctQ rfl ?_|((first|refine rgQ mxQ ?_|refine cdQ ?_|refine Run.A2 Kb (AK.le_refl _) ?_|refine AD.det (his) ?_)<;>try simp -implicitDefEqProofs only [hb,hw,go_sem])|fail))
theorem CN (hs:ROk L s) (t:Str) (σ:AK) (hb:σ.blk i=some (rsA L s)) (hc:s.is t=false):AP Tryz.prog 30 [.gp i 0,.d (.str t)] σ (fun v σ'=>v= .d (.bool false)∧σ'=σ):=by
 refine PJ (by simp) ?_
 rw [BH]
 have his:=VL hs t σ hb
 rw [hc] at his
 (repeat' (first|refine ctQ rfl ?_|((first|refine rgQ mxQ ?_|refine cdQ ?_|refine Run.A2 Kb (AK.le_refl _) ?_|refine AD.det (his) ?_)<;>try simp -implicitDefEqProofs only [go_sem])|fail))
theorem CT (hs:ROk L s) (t:Str) (σ:AK) (hb:σ.blk i=some (rsA L s)):AP Tryz.prog 32 [.gp i 0,.d (.str t)] σ (fun v σ'=>v= .tup []∧σ'=σ.AH i (rsA L ((RM.A9 t).run s).2)):=by
 refine Wq (by simp) ?_
 rw [BH]
 cases hc:s.is t with
 |true=>
  have hr:((RM.A9 t).run s).2=s.adv:=by
   show (if s.is t then ((),s.adv) else ((),(⟨s.r,true⟩:RSt))).2=_
   rw [if_pos hc]
  rw [hr]
  (repeat' (first|refine ctQ rfl ?_|((first|refine rgQ mxQ ?_|refine cdQ ?_|(refine AD.upd (CU hs t σ hb hc) ?_))<;>try simp -implicitDefEqProofs only [go_sem])|fail))
  exact Run.fin Ka rfl (fun _ _ h=>h) (AK.le_refl _) ⟨rfl,rfl⟩
 |false=>
  have hr:((RM.A9 t).run s).2=⟨s.r,true⟩:=by
   show (if s.is t then ((),s.adv) else ((),(⟨s.r,true⟩:RSt))).2=_
   rw [if_neg (by rw [hc];decide)]
  rw [hr]
  have hf:=CN hs t σ hb hc
  unfold rsA at hb
  (repeat' (first|refine ctQ rfl ?_|((first|refine rgQ mxQ ?_|refine cdQ ?_|(refine AD.upd hf ?_)|(simp only [hb]))<;>try simp -implicitDefEqProofs only [go_sem])|fail))
  exact Run.fin Ka rfl (fun _ _ h=>h) (AK.le_refl _) ⟨rfl,rfl⟩
theorem w9 (hs:ROk L s) (k:Int) (hk:k≠6) (σ:AK) (hb:σ.blk i=some (rsA L s)):AP Tryz.prog 33 [.gp i 0,.d (.int .i64 k)] σ (fun v σ'=>v= .d (.str ((RM.word k hk).run s).1)∧σ'=σ.AH i (rsA L ((RM.word k hk).run s).2)):=by
 refine Wt (by simp) ?_
 rw [BH]
 have hat:=hs.at
 have hle:=hs.idx.2
 have hw:=BV (a:=L.length - s.r.length) (by omega)
 have hw2:IntKind.i64.wrap (((L.length - s.r.length+1:Nat):Int) - 1)=((L.length - s.r.length:Nat):Int):=by rw [BF (by omega) (by omega)];omega
 by_cases hc:s.b=false∧(s.hd.kind==k)=true
 · have hr:(RM.word k hk).run s=(s.hd.text,s.adv):=if_pos (by rw [hc.1,hc.2];rfl)
   rw [hr,Ys hs]
   have hne:(s.hd.kind != k)=false:=by unfold bne;rw [hc.2];rfl
   unfold rsA at hb
   unfold Pv at hb ⊢
   rw [hc.1] at hb ⊢
   (repeat' (first|refine ctQ rfl ?_|((first|refine rgQ mxQ ?_|refine cdQ ?_|refine Run.A2 Hk (AK.le_refl _) ?_)<;>try simp -implicitDefEqProofs only [hne,hb,hat,hw,hw2,AZ,go_sem])|fail))
 · have hr:(RM.word k hk).run s=([],⟨s.r,true⟩):=if_neg (by
    intro h
    simp only [AR,CZ] at h
    exact hc h)
   rw [hr]
   unfold rsA Pv at hb ⊢
   cases hbd:s.b with
   |true=>
    rw [hbd] at hb
    (repeat' (first|refine ctQ rfl ?_|((first|refine rgQ mxQ ?_|refine cdQ ?_|refine Run.A2 Hk (AK.le_refl _) ?_)<;>try simp -implicitDefEqProofs only [hb,go_sem])|fail))
   |false=>
    have hne:(s.hd.kind != k)=true:=by
     unfold bne
     cases h:s.hd.kind==k with
     |false=>rfl
     |true=>exact absurd ⟨hbd,h⟩ hc
    rw [hbd] at hb
    (repeat' (first|refine ctQ rfl ?_|((first|refine rgQ mxQ ?_|refine cdQ ?_|refine Run.A2 Hk (AK.le_refl _) ?_)<;>try simp -implicitDefEqProofs only [hne,hb,hat,go_sem])|fail))
end
def RPC {α:Type} (fid:FuncId) (args:List AV) (i:Nat) (L:List Tok) (n:Nat) (m:RM α) (enc:α→AV):Prop:=
 ∀(σ:AK) (s:RSt),True→ROk L s→s.r.length≤n→σ.blk i=some (rsA L s)→AP Tryz.prog fid args σ (fun v σ'=>v=enc (m.run s).1∧σ'=σ.AH i (rsA L (m.run s).2))
theorem RPC.mono {α:Type} {fid:FuncId} {args:List AV} {i:Nat} {L:List Tok} {n k:Nat} {m:RM α} {enc:α→AV} (h:RPC fid args i L n m enc) (hk:k≤n):RPC fid args i L k m enc:=fun σ s hg h1 h2 h3=>h σ s hg h1 (Ay h2 hk) h3
theorem B7 (i:Nat) (L:List Tok) (n:Nat) (t:Str):RPC 32 [.gp i 0,.d (.str t)] i L n (RM.A9 t) (fun _=>.tup []):=fun σ s _ h1 _ h3=>CT h1 t σ h3
theorem bA (i:Nat) (L:List Tok) (n:Nat) (k:Int) (hk:k≠6):RPC 33 [.gp i 0,.d (.int .i64 k)] i L n (RM.word k hk) (fun x=>.d (.str x)):=fun σ s _ h1 _ h3=>w9 h1 k hk σ h3
theorem Lh (i:Nat) (L:List Tok) (n:Nat):RPC 33 [.gp i 0,.d (.int .i64 1)] i L n D9 (fun x=>.d (.str x)):=bA i L n 1 (by decide)
theorem Pj (i:Nat) (L:List Tok) (n:Nat):RPC 33 [.gp i 0,.d (.int .i64 2)] i L n Fv (fun x=>.d (.str x)):=bA i L n 2 (by decide)
theorem N7 (i:Nat) (L:List Tok) (n:Nat):RPC 77 [.gp i 0] i L n De (fun x=>.d (.str x)):=fun σ s hg h1 h2 h3=>by
 refine Wn (by simp) ?_
 rw [Ar]
 cases hc:s.is [95] with
 |true=>
  have hr:De.run s=([],s.adv):=if_pos hc
  rw [hr]
  (repeat' (first|refine ctQ rfl ?_|((first|refine rgQ mxQ ?_|refine cdQ ?_|refine Run.A2 K8 (AK.le_refl _) ?_|(refine AD.upd (CU h1 _ σ h3 hc) ?_))<;>try simp -implicitDefEqProofs only [go_sem])|fail))
 |false=>
  have hr:De.run s=D9.run s:=if_neg (by rw [hc];decide)
  rw [hr]
  (repeat' (first|refine ctQ rfl ?_|((first|refine rgQ mxQ ?_|refine cdQ ?_|refine Run.A2 K8 (AK.le_refl _) ?_|(refine AD.upd (CN h1 _ σ h3 hc) ?_)|(refine AD.upd (Lh i L n σ s hg h1 h2 h3) ?_))<;>try simp -implicitDefEqProofs only [go_sem])|fail))
theorem BD {α β:Type} (m:RM α) (k:α→RM β) (s:RSt):(m.bind k).run s=(k (m.run s).1).run (m.run s).2:=rfl
theorem BK {α:Type} (a:α) (s:RSt):(RM.pure a).run s=(a,s):=rfl
theorem jX {α β:Type} (g:α→β) (m:RM α) (s:RSt):(m.map g).run s=(g (m.run s).1,(m.run s).2):=rfl
theorem XP {α:Type} (k:Int) (y n:RM α) (s:RSt):(RM.kind k y n).run s=if (s.hd.kind==k)=true then y.run s else n.run s:=rfl
theorem WL {α:Type} (a:α) (n:RM α) (s:RSt):(RM.bad a n).run s=if s.b=true then (a,s) else n.run s:=rfl
theorem H9 {α:Type} (t:Str) (y n:RM α) (s:RSt):(RM.acc t y n).run s=if s.is t=true then y.run s.adv else n.run s:=rfl
end Go.Ab
namespace Go.Ab
open Go.Proofs
variable {P:Program}
structure RS (σ:AK) (i:Nat) (L:List Tok) (s:RSt) (e z:Nat) (rows:List (List DV)) (v:AV) (τ:AK):Prop where
 own:Cg (σ.DB i) e z rows v τ
 blk:τ.blk i=some (rsA L s)
theorem RS.step {σ τ:AK} {i:Nat} {L:List Tok} {s:RSt} {e z:Nat} {rows:List (List DV)} {v:AV} (h:RS σ i L s e z rows v τ) (s':RSt):RS σ i L s' e z rows v (τ.AH i (rsA L s')):=
 ⟨h.own.Yg (Gc σ i) _,AX⟩
theorem RS.fin {σ τ:AK} {i:Nat} {L:List Tok} {s:RSt} {e z:Nat} {rows:List (List DV)} {v:AV} (h:RS σ i L s e z rows v τ):Cg (σ.AH i (rsA L s)) e z rows v τ:=h.own.put h.blk
theorem RS.le {σ τ:AK} {i:Nat} {L:List Tok} {s:RSt} {e z:Nat} {rows:List (List DV)} {v:AV} (h:RS σ i L s e z rows v τ):(σ.AH i (rsA L s)).le τ:=h.fin.le
theorem RS.of {σ τ:AK} {i:Nat} {L:List Tok} {s:RSt} {e z:Nat} {rows:List (List DV)} {v:AV} (h:Cg (σ.AH i (rsA L s)) e z rows v τ):RS σ i L s e z rows v τ:=
 ⟨h.mono (Z6 σ i _),h.le.blk i _ AX⟩
theorem RS.lit {σ:AK} {i:Nat} {L:List Tok} {s:RSt} {e z t:Nat} {rows:List (List DV)} (ht:σ.tok t=false):RS σ i L s e z rows (.own t e z rows) ((σ.AH i (rsA L s)).CO t):=
 ⟨Cg.own (Z6 σ i _) (σ':=σ) ⟨fun j c hj=>by
   have:j≠i:=fun e=>by rw [e] at hj;simp [AK.DB] at hj
   simpa [AK.DB,this] using hj,fun _ h=>h,rfl,fun _ _ h=>h⟩ ht,by rw [Ep,AZ,if_pos rfl]⟩
theorem RS.dF {σ:AK} {i:Nat} {L:List Tok} {s:RSt} {e z t:Nat} {rows:List (List DV)} (ht:(σ.AH i (rsA L s)).tok t=false):RS σ i L s e z rows (.own t e z rows) ((σ.AH i (rsA L s)).CO t):=RS.lit (σ:=σ) ht
theorem RS.vL {σ:AK} {i:Nat} {L:List Tok} {s:RSt} {e z t:Nat} {rows:List (List DV)} (ht:(σ.AH i (rsA L s)).tok t=false) (s':RSt):RS σ i L s' e z rows (.own t e z rows) (((σ.AH i (rsA L s)).CO t).AH i (rsA L s')):=(RS.dF ht).step s'
theorem RS.tok {σ τ:AK} {i:Nat} {L:List Tok} {s:RSt} {e z:Nat} {rows:List (List DV)} {v:AV} (h:RS σ i L s e z rows v τ) {F:Fm} {Lm0:Lm} {K:Cd} {d:Option Nat} {bytes:Nat} {x:AV} {srows:List (List DV)} (h2:x.rows=some srows) (h3:∀r∈srows,r.length=z) (h4:rows.length+srows.length≤1000000000) (hb:bytes≤10000)
 (hk:∀v' τ',RS σ i L s e z (rows++srows) v' τ'→K (At d v' F) Lm0 τ'):JJ e z bytes v x d K F Lm0 τ:=
 JJ.own h.own h2 h3 h4 hb (fun v' τ' ho hbk=>hk v' τ' ⟨ho,by rw [hbk];exact h.blk⟩)
theorem Fw {α:Type} {read:RM α} {t:Str} {n:Nat} {l:List α} {s:RSt} (hc:s.is t=true):(B5 read t (n+1) l).run s=(B5 read t n (l++[(read.run s.adv).1])).run (read.run s.adv).2:=if_pos hc
theorem FP {α:Type} {read:RM α} {t:Str} {n:Nat} {l:List α} {s:RSt} (hc:s.is t=false):(B5 read t (n+1) l).run s=(l,s):=if_neg (by rw [hc];decide)
theorem YE {α:Type} {read:RM α} {t:Str}:∀(n:Nat) (l:List α) (s:RSt),WF s.r→((B5 read t n l).run s).1.length+((B5 read t n l).run s).2.r.length≤l.length+s.r.length
 |0,l,s,_=>A4 _
 |n+1,l,s,hw=>by
  cases hc:s.is t with
  |false=>rw [FP hc];exact A4 _
  |true=>
   rw [Fw hc]
   have hw1:=(Yu hw (.inl (by have:=(RSt.Vr hc).2.1;omega))).1
   have h1:=read.le hw1
   have h2:=Am hw
   have h3:=YE (read:=read) (t:=t) n (l++[(read.run s.adv).1]) (read.run s.adv).2 (read.sf _ hw1).1
   simp only [AA,AG,AI] at h3
   omega
theorem VM {α:Type} {read:RM α} {t:Str} {s:RSt} (hw:WF s.r):((BX read t).run s).1.length≤1+s.r.length:=by
 have h1:=read.le hw
 have h3:=YE (read:=read) (t:=t) Af [(read.run s).1] (read.run s).2 (read.sf _ hw).1
 simp only [AG,AI] at h3
 show ((B5 read t Af [(read.run s).1]).run (read.run s).2).1.length≤_
 omega
end Go.Ab
namespace Go.Ab
open Go.Proofs
theorem hP (z:UInt8):Da IX z=(Vx z.toNat||UL z.toNat||Gd z.toNat||((z.toNat:Int)==95)):=rfl
theorem aG (s:Str) (i:Nat) (x:UInt8) (hx:s[i]?=some x) (hw:Da IX x=true) (hl:s.length≤16384) (σ1:AK) (a5 a7:AV) (K:AV→AK→Prop) (k:List CI)
 (hk:Run G4 K k (put 0 (.d (.str s)) (put 5 a5 (put 6 (.d (.int .i64 i)) (put 7 a7 (put 8 (.d (.int .i64 (((s.drop i).takeWhile (Da IX)).length:Nat))) U))))) E σ1):
 Run G4 K (.again US::.blk 5::k) (put 0 (.d (.str s)) (put 5 a5 (put 6 (.d (.int .i64 i)) (put 7 a7 (put 8 (.d (.int .i64 1)) U))))) E σ1:=by
 refine Run.BZ ((fun (a0:AV) (a5:AV) (a6:AV) (a7:AV)=>fun (m:Nat)=>put 0 a0 (put 5 a5 (put 6 a6 (put 7 a7 (put 8 (.d (.int .i64 m)) U))))) _ _ _ _) (fun _=>E) (fun _=>σ1) (fun m=>1≤m∧i+m≤s.length∧∀q b,q < m→(s.drop i)[q]?=some b→Da IX b=true) (fun m=>s.length - m) ?_ 1 ⟨by omega,?_,?_⟩
 · rintro m ⟨h1,hm,hall⟩ ih
   have hw0:=wrap_add (show i+m≤9000000000000000000 by omega)
   have hw1:=BV (show m+1≤9000000000000000000 by omega)
   have hend:(∀b,(s.drop i)[m]?=some b→Da IX b=false)→((s.drop i).takeWhile (Da IX)).length=m:=fun h=>by
    rw [Ey hall (by simp;omega) h];simp;omega
   by_cases hlt:i+m < s.length
   · obtain ⟨z,hz⟩:=CF hlt
     have hz2:(s.drop i)[m]?=some z:=by rw [BM];exact hz
     have hstep:Da IX z=true→∀q b,q < m+1→(s.drop i)[q]?=some b→Da IX b=true:=fun hc q b hq hb=>by
      rcases Ea q m with h2|h2
      · exact hall q b h2 hb
      · have:q=m:=by omega
        subst this;rw [hz2] at hb;cases hb;exact hc
     (repeat' (first|refine ctQ rfl ?_|((first|refine rgQ mxQ ?_|refine cdQ ?_|refine AD.det (Ix _ _) ?_|refine AD.det (Iy _ _) ?_|refine AD.det (H7 _ _) ?_|(refine GS rfl (fun h=>?_) (fun h=>?_)<;>try (cases h;done)))<;>try simp -implicitDefEqProofs only [hw0,hw1,B1 hlt,DL hz,go_sem])|(refine ⟨fun h=>?_,fun h=>?_⟩<;>first|(cases h;done)|try simp only [h])|fail))
     all_goals first
      |exact ih (m+1) ⟨by omega,by omega,hstep (by simp_all [hP])⟩ (by omega)
      |(rw [hend (fun b hb=>by rw [hz2] at hb;cases hb;simp_all [hP])] at hk;refine Run.Lg [0,5,6,7,8] ?_;simp -implicitDefEqProofs only [go_sem];exact hk)
   · (repeat' (first|refine ctQ rfl ?_|((first|refine rgQ mxQ ?_|refine cdQ ?_)<;>try simp -implicitDefEqProofs only [hw0,Ff hlt,go_sem])|fail))
     rw [hend (fun b hb=>by rw [BM,Jq (by omega)] at hb;cases hb)] at hk
     refine Run.Lg [0,5,6,7,8] ?_;simp -implicitDefEqProofs only [go_sem]
     exact hk
 · have:=(A3.1 hx).1;omega
 · intro q b hq hb
   have:q=0:=by omega
   subst this
   rw [BM,E9,hx] at hb;cases hb;exact hw
theorem aH (s:Str) (i:Nat) (x:UInt8) (hx:s[i]?=some x) (hw:Da Gd x=true) (hl:s.length≤16384) (σ1:AK) (a5 a7:AV) (K:AV→AK→Prop) (k:List CI)
 (hk:Run G4 K k (put 0 (.d (.str s)) (put 5 a5 (put 6 (.d (.int .i64 i)) (put 7 a7 (put 8 (.d (.int .i64 (((s.drop i).takeWhile (Da Gd)).length:Nat))) U))))) E σ1):
 Run G4 K (.again UT::.blk 7::k) (put 0 (.d (.str s)) (put 5 a5 (put 6 (.d (.int .i64 i)) (put 7 a7 (put 8 (.d (.int .i64 1)) U))))) E σ1:=by
 refine Run.BZ ((fun (a0:AV) (a5:AV) (a6:AV) (a7:AV)=>fun (m:Nat)=>put 0 a0 (put 5 a5 (put 6 a6 (put 7 a7 (put 8 (.d (.int .i64 m)) U))))) _ _ _ _) (fun _=>E) (fun _=>σ1) (fun m=>1≤m∧i+m≤s.length∧∀q b,q < m→(s.drop i)[q]?=some b→Da Gd b=true) (fun m=>s.length - m) ?_ 1 ⟨by omega,?_,?_⟩
 · rintro m ⟨h1,hm,hall⟩ ih
   have hw0:=wrap_add (show i+m≤9000000000000000000 by omega)
   have hw1:=BV (show m+1≤9000000000000000000 by omega)
   have hend:(∀b,(s.drop i)[m]?=some b→Da Gd b=false)→((s.drop i).takeWhile (Da Gd)).length=m:=fun h=>by
    rw [Ey hall (by simp;omega) h];simp;omega
   by_cases hlt:i+m < s.length
   · obtain ⟨z,hz⟩:=CF hlt
     have hz2:(s.drop i)[m]?=some z:=by rw [BM];exact hz
     have hstep:Da Gd z=true→∀q b,q < m+1→(s.drop i)[q]?=some b→Da Gd b=true:=fun hc q b hq hb=>by
      rcases Ea q m with h2|h2
      · exact hall q b h2 hb
      · have:q=m:=by omega
        subst this;rw [hz2] at hb;cases hb;exact hc
     cases hd:Gd z.toNat with
     |true=>
      (repeat' (first|refine ctQ rfl ?_|((first|refine rgQ mxQ ?_|refine cdQ ?_|refine AD.det (H7 _ _) ?_)<;>try simp -implicitDefEqProofs only [hw0,hw1,B1 hlt,DL hz,hd,go_sem])|fail))
      exact ih (m+1) ⟨by omega,by omega,hstep hd⟩ (by omega)
     |false=>
      (repeat' (first|refine ctQ rfl ?_|((first|refine rgQ mxQ ?_|refine cdQ ?_|refine AD.det (H7 _ _) ?_)<;>try simp -implicitDefEqProofs only [hw0,B1 hlt,DL hz,hd,go_sem])|fail))
      rw [hend (fun b hb=>by rw [hz2] at hb;cases hb;exact hd)] at hk
      refine Run.Lg [0,5,6,7,8] ?_;simp -implicitDefEqProofs only [go_sem]
      exact hk
   · (repeat' (first|refine ctQ rfl ?_|((first|refine rgQ mxQ ?_|refine cdQ ?_)<;>try simp -implicitDefEqProofs only [hw0,Ff hlt,go_sem])|fail))
     rw [hend (fun b hb=>by rw [BM,Jq (by omega)] at hb;cases hb)] at hk
     refine Run.Lg [0,5,6,7,8] ?_;simp -implicitDefEqProofs only [go_sem]
     exact hk
 · have:=(A3.1 hx).1;omega
 · intro q b hq hb
   have:q=0:=by omega
   subst this
   rw [BM,E9,hx] at hb;cases hb;exact hw
theorem kH {c:UInt8→Bool} (s:Str) (i:Nat) (hi:i≤s.length):TS (.d (.str s)) (some (.d (.int .i64 (i:Int)))) (some (.d (.int .i64 ((i+((s.drop i).takeWhile c).length:Nat):Int))))=some (.d (.str ((s.drop i).takeWhile c))):=by
 have h:=Eo c (s.drop i)
 rw [Ah] at h
 rw [xL (by omega) (by omega),Ks,Nat.add_sub_cancel_left]
 congr 3
 exact (List.prefix_iff_eq_take.1 (List.takeWhile_prefix c)).symm
theorem xN (s:Str) (i n:Nat) (hi:i≤s.length) (hn:n≤(s.drop i).length):TS (.d (.str s)) (some (.d (.int .i64 (i:Int)))) (some (.d (.int .i64 ((i+n:Nat):Int))))=some (.d (.str ((s.drop i).take n))):=by
 rw [Ah] at hn
 rw [xL (by omega) (by omega),Ks,Nat.add_sub_cancel_left]
theorem kA:∀(b:UInt8) (r:Str),IV (b::r)≤(b::r).length
 |b,[]=>by simp only [IV,gR];split<;>simp
 |b,c::r=>by
  simp only [IV]
  cases xC b c
  · simp only [gR,AL,if_false];split<;>simp
  · simp
set_option maxHeartbeats 4000000 in
theorem YB (s:Str) (σ:AK):AP Tryz.prog 29 [.d (.str s)] σ (fun v σ'=>v=Gy (Au s)∧σ'=σ):=by
 refine lS (by simp) ?_
 rw [Ar]
 by_cases hl:s.length>16384
 · (repeat' (first|refine ctQ rfl ?_|((first|refine rgQ mxQ ?_|refine cdQ ?_|refine Run.A2 HS (AK.le_refl _) ?_)<;>try simp -implicitDefEqProofs only [uN,decide_eq_true hl,go_sem])|fail))
   simp [Gy,Au,hl]
 · (repeat' (first|refine ctQ rfl ?_|((first|refine rgQ mxQ ?_|refine cdQ ?_)<;>try simp -implicitDefEqProofs only [uN,decide_eq_false hl,go_sem])|fail))
   refine Run.BU ?_
   refine Run.BZ ((fun (a0:AV)=>fun (y:Nat×AV×AK)=>put 0 a0 (put 5 (y.2.1) (put 6 (.d (.int .i64 y.1)) U))) _) (fun _=>E) (fun y=>y.2.2) (fun y=>y.1≤s.length∧∃acc n,Cg σ 58 3 (acc.map Tok.enc) y.2.1 y.2.2∧acc.length≤y.1∧s.length - y.1 < n∧Au s=EG n (s.drop y.1) y.1 acc) (fun y=>s.length - y.1) ?_ (0,.AO,σ) ⟨by simp,[],s.length+1,Cg.nil _ _ _,by simp,by simp,by simp [Au,hl]⟩
   rintro ⟨i,v,σ1⟩ ⟨hi,acc,n,ho,hac,hn,hs⟩ ih
   simp only at hi ho hac hn hs
   obtain ⟨n,rfl⟩:∃m,n=m+1:=⟨n - 1,by omega⟩
   by_cases hlt:i < s.length
   · obtain ⟨x,hx⟩:=CF hlt
     rw [Ej hx,EG] at hs
     have hw1:=BV (show i+1≤9000000000000000000 by omega)
     have hsl:(x::s.drop (i+1)).length=s.length - i:=by simp;omega
     cases hb:k8 x.toNat with
     |true=>
      rw [hb,if_pos rfl] at hs
      (repeat' (first|refine ctQ rfl ?_|((first|refine rgQ mxQ ?_|refine cdQ ?_|(refine GS rfl (fun h=>?_) (fun h=>?_)<;>try (cases h;done)))<;>try simp -implicitDefEqProofs only [B1 hlt,DL hx,hw1,go_sem])|(refine ⟨fun h=>?_,fun h=>?_⟩<;>first|(cases h;done)|try simp only [h])|fail))
      all_goals first
       |exact ih (i+1,v,σ1) ⟨hlt,acc,n,ho,by simp only;omega,by simp only;omega,hs⟩ (by simp only;omega)
       |(exfalso;simp_all [k8];done)
     |false=>
      rw [hb,if_neg (by simp)] at hs
      simp only [k8,Bool.or_eq_false_iff] at hb
      obtain ⟨⟨⟨h9,h10⟩,h13⟩,h32⟩:=hb
      cases hc:(x==35) with
      |true=>
       rw [hc,if_pos rfl] at hs
       (repeat' (first|refine ctQ rfl ?_|((first|refine rgQ mxQ ?_|refine cdQ ?_)<;>try simp -implicitDefEqProofs only [B1 hlt,DL hx,h9,h10,h13,h32,RH,hc,go_sem])|fail))
       refine Run.Lg [0,5,6] ?_;simp -implicitDefEqProofs only [go_sem]
       refine Run.BU ?_
       refine Run.BZ ((fun (a0:AV) (a5:AV)=>fun (j:Nat)=>put 0 a0 (put 5 a5 (put 6 (.d (.int .i64 j)) U))) _ _) (fun _=>E) (fun _=>σ1) (fun j=>i≤j∧j≤s.length∧∀q b,q < j - i→(s.drop i)[q]?=some b→(!(b==10))=true) (fun j=>s.length - j) ?_ i ⟨A4 i,hi,by intro q b hq;omega⟩
       rintro j ⟨hij,hj,hall⟩ ih2
       have hw2:=BV (show j+1≤9000000000000000000 by omega)
       have hend:(∀z,s[j]?=some z→(z==10)=true)→j≠i∧Au s=EG n (s.drop j) j acc:=fun hz=>by
        have hji:j≠i:=fun e=>by
         subst e
         have h10:=hz x hx
         simp only [beq_iff_eq] at hc h10
         rw [hc] at h10;exact absurd h10 (by decide)
        have hk:cmt (x::s.drop (i+1))=j - i:=by
         rw [← Ej hx,cmt,Ey hall (by simp;omega) (fun b hb=>by
          rw [BM,show i+(j - i)=j by omega] at hb
          simp [hz b hb])]
         simp;omega
        rw [hk,← Ej hx,DC,show i+(j - i)=j by omega] at hs
        exact ⟨hji,hs⟩
       by_cases hjl:j < s.length
       · obtain ⟨z,hz⟩:=CF hjl
         have hz2:(s.drop i)[j - i]?=some z:=by rw [BM,show i+(j - i)=j by omega];exact hz
         cases h10:(z==10) with
         |true=>
          obtain ⟨hji,hs⟩:=hend (fun z' hz'=>by rw [hz] at hz';cases hz';exact h10)
          (repeat' (first|refine ctQ rfl ?_|((first|refine rgQ mxQ ?_|refine cdQ ?_)<;>try simp -implicitDefEqProofs only [B1 hjl,DL hz,gX,bne,h10,go_sem])|fail))
          refine Run.Lg [0,5,6] ?_;simp -implicitDefEqProofs only [go_sem]
          exact ih (j,v,σ1) ⟨hj,acc,n,ho,by simp only;omega,by simp only;omega,hs⟩ (by simp only;omega)
         |false=>
          (repeat' (first|refine ctQ rfl ?_|((first|refine rgQ mxQ ?_|refine cdQ ?_)<;>try simp -implicitDefEqProofs only [B1 hjl,DL hz,gX,bne,h10,hw2,go_sem])|fail))
          refine ih2 (j+1) ⟨by omega,hjl,fun q b hq hb=>?_⟩ (by omega)
          rcases Ea q (j - i) with h2|h2
          · exact hall q b h2 hb
          · have:q=j - i:=by omega
            subst this
            rw [hz2] at hb;cases hb;simp [h10]
       · obtain ⟨hji,hs⟩:=hend (fun z hz=>by rw [Jq (by omega)] at hz;cases hz)
         (repeat' (first|refine ctQ rfl ?_|((first|refine rgQ mxQ ?_|refine cdQ ?_)<;>try simp -implicitDefEqProofs only [Ff hjl,go_sem])|fail))
         refine Run.Lg [0,5,6] ?_;simp -implicitDefEqProofs only [go_sem]
         exact ih (j,v,σ1) ⟨hj,acc,n,ho,by simp only;omega,by simp only;omega,hs⟩ (by simp only;omega)
      |false=>
       rw [hc,if_neg (by simp)] at hs
       have hld:s.drop i=x::s.drop (i+1):=Ej hx
       have hss:TS (.d (.str s)) (some (.d (.int .i64 (i:Int)))) none=some (.d (.str (x::s.drop (i+1)))):=by rw [xM hi,hld]
       -- behind a token
       have next:∀(k:Int) (t:Str) (v2:AV) (σ2:AK),FK (x::s.drop (i+1))= .ok (k,t)→Cg σ 58 3 (acc.map Tok.enc++[[.int .i64 k,.str t,.int .i64 i]]) v2 σ2→
        1≤t.length∧i+t.length≤s.length∧(i+t.length≤s.length∧∃acc n,Cg σ 58 3 (acc.map Tok.enc) v2 σ2∧acc.length≤i+t.length∧s.length - (i+t.length) < n∧Au s=EG n (s.drop (i+t.length)) (i+t.length) acc):=fun k t v2 σ2 hsc ho2=>by
        have hsn:=TP hsc
        rw [hsl] at hsn
        rw [hsc] at hs
        refine ⟨hsn.1,by omega,by omega,acc++[⟨k,t,i⟩],n,by simpa [Tok.enc] using ho2,by simp only [AA,List.length_singleton];omega,by omega,?_⟩
        rw [hs];simp only;rw [← Ej hx,DC]
       have fail:∀e:Int,FK (x::s.drop (i+1))= .error e→Au s=([],i,e):=fun e he=>by rw [hs,he]
       have hwd:=kH (c:=Da IX) s i hi
       have hdd:=kH (c:=Da Gd) s i hi
       have hsg:=xN s i (IV (x::s.drop (i+1))) hi (by rw [hld];exact kA _ _)
       have hwl:=Eo (Da IX) (s.drop i)
       have hdl:=Eo (Da Gd) (s.drop i)
       have hsl2:=kA x (s.drop (i+1))
       have hL1:=aG s i x hx
       have hL2:=aH s i x hx
       rw [hld] at hwd hdd hsg hwl hdl hL1 hL2
       simp only [hsl] at hwl hdl hsl2
       have hw0:=fun n (h:n≤s.length - i)=>wrap_add (show i+n≤9000000000000000000 by omega)
       have hap:∀(r:List DV),r.length=3→∀q∈[r],q.length=3:=fun r hr q hq=>by rw [JC] at hq;rw [hq];exact hr
       have gt24':=AEZ
       have gt1':=gt1
       by_cases hlu:(Vx x.toNat||UL x.toNat)=true
       · have hwx:Da IX x=true:=by rw [hP,hlu];rfl
         have hsc:FK (x::s.drop (i+1))=if decide (((x::s.drop (i+1)).takeWhile (Da IX)).length>24) then .error 9
                                                                                 else if UL x.toNat then .ok (2,(x::s.drop (i+1)).takeWhile (Da IX))
                                                                                 else if dD ((x::s.drop (i+1)).takeWhile (Da IX)) then .ok (4,(x::s.drop (i+1)).takeWhile (Da IX))
                                                                                 else .ok (1,(x::s.drop (i+1)).takeWhile (Da IX)):=by rw [FK,if_pos hlu]
         have hL:=fun K k=>hL1 hwx (by omega) σ1 v (.d (.int .u8 x.toNat)) K k
         generalize ((x::s.drop (i+1)).takeWhile (Da IX))=w at hwd hwl hsc hL
         have hwn:=hw0 w.length hwl
         cases hup:UL x.toNat<;>cases hlo:Vx x.toNat<;>rw [hup] at hsc<;>first|(simp only [hup,hlo,Bool.or_self,AL] at hlu;done)|skip
         all_goals (repeat' (first|refine ctQ rfl ?_|((first|refine rgQ mxQ ?_|refine cdQ ?_|(refine Run.BU ?_;refine Run.Lg [0,5,6,7,8] ?_;simp -implicitDefEqProofs only [go_sem];refine hL _ _ ?_)|(refine JJ.own ho rfl (by simp) (by simp;omega) (by decide) (fun v2 σ2 ho2 hbk=>?_))|(refine Run.A2 HS ho.le ?_)|refine AD.det (Ix _ _) ?_|refine AD.det (Iy _ _) ?_|refine AD.det (dG _ _) ?_)<;>try simp -implicitDefEqProofs only [hup,hlo,B1 hlt,DL hx,h9,h10,h13,h32,RH,hc,hwn,hwd,gt24',AL,go_sem])|(refine ⟨fun h=>?_,fun h=>?_⟩<;>first|(cases h;done)|try simp only [h])|fail))
         all_goals first
          |(obtain ⟨p1,p2,p3⟩:=next _ w _ _ (by rw [hsc];simp only [*,AL,reduceIte]) ho2;exact ih (i+w.length,_,_) p3 (by simp only;omega))
          |(rw [fail 9 (by rw [hsc];simp only [*,AL,reduceIte])];simp [Gy];done)
       · simp only [R9,Bool.or_eq_false_iff] at hlu
         have hnlu:¬(Vx x.toNat||UL x.toNat)=true:=by simp [hlu]
         cases hdg:Gd x.toNat with
         |true=>
          have hsc:FK (x::s.drop (i+1))=if x==48&&decide (((x::s.drop (i+1)).takeWhile (Da Gd)).length>1) then .error 2
                                                                                         else if (IW ((x::s.drop (i+1)).takeWhile (Da Gd)) 0).isSome then .ok (3,(x::s.drop (i+1)).takeWhile (Da Gd))
                                                                                         else .error 9:=by rw [FK,if_neg hnlu,if_pos hdg]
          have hL:=fun K k=>hL2 hdg (by omega) σ1 v (.d (.int .u8 x.toNat)) K k
          generalize ((x::s.drop (i+1)).takeWhile (Da Gd))=w at hdd hdl hsc hL
          have hwn:=hw0 w.length hdl
          have hval:=YC w σ1 (by omega)
          cases hv:IW w 0 with
          |some z=>
           rw [hv] at hval
           (repeat' (first|refine ctQ rfl ?_|((first|refine rgQ mxQ ?_|refine cdQ ?_|(refine Run.BU ?_;refine Run.Lg [0,5,6,7,8] ?_;simp -implicitDefEqProofs only [go_sem];refine hL _ _ ?_)|(refine JJ.own ho rfl (by simp) (by simp;omega) (by decide) (fun v2 σ2 ho2 hbk=>?_))|(refine Run.A2 HS ho.le ?_)|refine AD.det (Ix _ _) ?_|refine AD.det (Iy _ _) ?_|refine AD.det (H7 _ _) ?_|refine AD.det (hval) ?_|(refine GS rfl (fun h=>?_) (fun h=>?_)<;>try (cases h;done)))<;>try simp -implicitDefEqProofs only [B1 hlt,DL hx,h9,h10,h13,h32,RH,hc,hwn,hdd,gt1',xY,hlu.1,hlu.2,hdg,AL,go_sem])|(refine ⟨fun h=>?_,fun h=>?_⟩<;>first|(cases h;done)|try simp only [h])|fail))
           all_goals first
            |(obtain ⟨p1,p2,p3⟩:=next _ w _ _ (by rw [hsc];simp only [*,AL,reduceIte,BR,G6,Option.isSome_some]) ho2;exact ih (i+w.length,_,_) p3 (by simp only;omega))
            |(rw [fail 2 (by rw [hsc];simp only [*,reduceIte,BR,Option.isSome_some])];simp [Gy];done)
          |none=>
           rw [hv] at hval
           (repeat' (first|refine ctQ rfl ?_|((first|refine rgQ mxQ ?_|refine cdQ ?_|(refine Run.BU ?_;refine Run.Lg [0,5,6,7,8] ?_;simp -implicitDefEqProofs only [go_sem];refine hL _ _ ?_)|(refine JJ.own ho rfl (by simp) (by simp;omega) (by decide) (fun v2 σ2 ho2 hbk=>?_))|(refine Run.A2 HS ho.le ?_)|refine AD.det (Ix _ _) ?_|refine AD.det (Iy _ _) ?_|refine AD.det (H7 _ _) ?_|refine AD.det (hval) ?_|(refine GS rfl (fun h=>?_) (fun h=>?_)<;>try (cases h;done)))<;>try simp -implicitDefEqProofs only [B1 hlt,DL hx,h9,h10,h13,h32,RH,hc,hwn,hdd,gt1',xY,hlu.1,hlu.2,hdg,AL,go_sem])|(refine ⟨fun h=>?_,fun h=>?_⟩<;>first|(cases h;done)|try simp only [h])|fail))
           all_goals first
            |(rw [fail 2 (by rw [hsc];simp only [*,AL,reduceIte,BR,G6,Option.isSome_none])];simp [Gy];done)
            |(rw [fail 9 (by rw [hsc];simp only [*,AL,reduceIte,BR,G6,Option.isSome_none])];simp [Gy];done)
         |false=>
          have hsc:FK (x::s.drop (i+1))=if (x::s.drop (i+1)).take (IV (x::s.drop (i+1)))==[] then .error 2 else .ok (5,(x::s.drop (i+1)).take (IV (x::s.drop (i+1)))):=by rw [FK,if_neg hnlu,if_neg (by simp [hdg])]
          have hsk:=nG (x::s.drop (i+1)) σ1 (by simp)
          have hwn:=hw0 (IV (x::s.drop (i+1))) hsl2
          have htl:((x::s.drop (i+1)).take (IV (x::s.drop (i+1)))).length=IV (x::s.drop (i+1)):=by rw [Bj,hsl];omega
          generalize IV (x::s.drop (i+1))=m at hsc hsk hwn hsg hsl2 htl
          generalize ((x::s.drop (i+1)).take m)=w at hsc hsg htl
          have hz:((m:Int)==0)=(w==[]):=by
           rw [Ds];simp only [beq_iff_eq]
           rw [← OE,htl];omega
          cases hw:(w==[]) with
          |true=>
           (repeat' (first|refine ctQ rfl ?_|((first|refine rgQ mxQ ?_|refine cdQ ?_|(refine Run.A2 HS ho.le ?_)|refine AD.det (Ix _ _) ?_|refine AD.det (Iy _ _) ?_|refine AD.det (H7 _ _) ?_|refine AD.det (hsk) ?_)<;>try simp -implicitDefEqProofs only [B1 hlt,DL hx,h9,h10,h13,h32,RH,hc,hss,hlu.1,hlu.2,hdg,hz,hw,AL,go_sem])|fail))
           rw [fail 2 (by rw [hsc,if_pos hw])];simp [Gy]
          |false=>
           (repeat' (first|refine ctQ rfl ?_|((first|refine rgQ mxQ ?_|refine cdQ ?_|(refine JJ.own ho rfl (by simp) (by simp;omega) (by decide) (fun v2 σ2 ho2 hbk=>?_))|(refine Run.A2 HS ho.le ?_)|refine AD.det (Ix _ _) ?_|refine AD.det (Iy _ _) ?_|refine AD.det (H7 _ _) ?_|refine AD.det (hsk) ?_)<;>try simp -implicitDefEqProofs only [B1 hlt,DL hx,h9,h10,h13,h32,RH,hc,hss,hwn,hsg,hlu.1,hlu.2,hdg,hz,hw,AL,go_sem])|fail))
           obtain ⟨p1,p2,p3⟩:=next 5 w _ _ (by rw [hsc,if_neg (by simp [hw])]) ‹_›
           rw [htl] at p1 p2 p3
           exact ih (i+m,_,_) p3 (by simp only;omega)
   · have hge:i=s.length:=by omega
     rw [hge,Ra,EG] at hs
     (repeat' (first|refine ctQ rfl ?_|((first|refine rgQ mxQ ?_|refine cdQ ?_|(refine JJ.own ho rfl (by simp) (by simp;omega) (by decide) (fun v2 σ2 ho2 hbk=>?_))|(refine Run.A2 HS ho2.le ?_))<;>try simp -implicitDefEqProofs only [Ff hlt,go_sem])|fail))
     simp -implicitDefEqProofs only [ho2.BL,ho2.plain,go_sem]
     rw [hs];simp [Gy,Tok.enc]
end Go.Ab
