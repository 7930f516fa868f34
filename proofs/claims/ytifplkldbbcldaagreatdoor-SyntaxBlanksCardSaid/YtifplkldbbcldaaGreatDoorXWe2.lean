/- Several owned slices side by side. Valid programs, as the reference looks at them. The parser: declarations, programs, Parse. Parse of the program. The sanity check of the laws of syntax. The guards on programs: Names, written, expr. The guards on programs: Prog. The law on sizes: SyntaxLimits, over abstract values. Conditions: none. -/
import Derived.Test.YtifplkldbbcldaaGreatDoorXPi
set_option linter.unusedSimpArgs false
set_option linter.unusedVariables false
set_option maxRecDepth 4000
set_option maxHeartbeats 8000000
open Nat renaming mul_le_mul→NR,le_trans→Az
open Option.some renaming injEq→AP
open Except.ok renaming injEq→D2
open Prod.mk renaming injEq→BH
open List renaming takeWhile_cons→B8,mem_append→BF,mem_singleton→Da,length_drop→Ad,map_cons→AE,map_nil→AH,length_pos_iff→Aq,length_map→AI,length_cons→AD,length_nil→AF,length_append→AA,map_append→B1
open Bool renaming false_eq_true→AY
open Int renaming reduceBEq→A5
namespace Go.Ab
def dT:AV→Option Nat
 | .own t _ _ _=>some t
 |_=>none
def V7 (v w:AV):Prop:=∀t,dT v=some t→dT w≠some t
theorem V7.symm {v w:AV} (h:V7 v w):V7 w v:=fun t h1 h2=>h t h2 h1
theorem bA (w:AV):V7 .AW w:=fun t h=>by cases h
theorem Ec.WL {σ0 σ σ':AN} {e s:Nat} {rows:List (List DV)} {w:AV} (h:Ec σ0 e s rows w σ) (hle:σ0.le σ') (ht:∀t,dT w=some t→σ.tok t=true→σ'.tok t=true):Ec σ0 e s rows w σ':=by
 obtain ⟨⟨σ1,ha,hl⟩,_,h1,h2,h3,h4,h5,h6,h7⟩:=h
 refine ⟨?_,hle,h1,h2,h3,h4,h5,h6,h7⟩
 unfold ON at ha ⊢
 split at ha
 · cases ha;exact ⟨σ',rfl,hle⟩
 · rename_i t e' s' rows'
   split at ha
   · rename_i hc
     cases ha
     obtain ⟨q1,q2,q3⟩:=hc
     refine ⟨σ'.Eg t,by rw [if_pos ⟨q1,q2,ht t rfl q3⟩],⟨hle.blk,fun t' h'=>?_,hle.gt,hle.bt⟩⟩
     have hne:t'≠t:=fun e=>by
      have:=hl.tok t' h'
      simp [AN.Eg,e] at this
     simp [AN.Eg,hne,hle.tok t' h']
   · cases ha
 · cases ha
theorem NT.wO {cx:Cx} {K:Fm→Lm→AN→Prop} {F:Fm} {L:Lm} {σ σ0:AN} {d:Option Nat} {e size bytes:Nat} {s x:AV} {rows srows:List (List DV)} (ho:Ec σ0 e size rows s σ) (h2:x.rows=some srows)
 (h3:∀r∈srows,r.length=size) (h4:rows.length+srows.length≤1000000000) (hb:bytes≤10000)
 (h:∀v σ',Ec σ0 e size (rows++srows) v σ'→(∀i,σ'.blk i=σ.blk i)→(∀e2 s2 rows2 w,Ec σ0 e2 s2 rows2 w σ→V7 s w→Ec σ0 e2 s2 rows2 w σ'∧V7 v w)→K (An d v F) L σ'):NT e size bytes s x d K F L σ:=by
 obtain ⟨σ1,ha,hl⟩:=ho.app
 have hblk:∀i,σ1.blk i=σ.blk i:=fun i=>by
  unfold ON at ha
  split at ha
  · cases ha;rfl
  · split at ha
    · cases ha;rfl
    · cases ha
  · cases ha
 have htok:∀t,dT s≠some t→σ.tok t=true→σ1.tok t=true:=fun t hne ht=>by
  unfold ON at ha
  split at ha
  · cases ha;exact ht
  · rename_i ts e' s' rows'
    split at ha
    · cases ha
      have:t≠ts:=fun e=>hne (by rw [e];rfl)
      simp [AN.Eg,this,ht]
    · cases ha
  · cases ha
 refine NT.mk ha h2 h3 (by simp only [maxLen];omega) ?_ (fun t ht=>h _ _ (Ec.own hl ho.le ht) (fun i=>by rw [F8];exact hblk i) (fun e2 s2 rows2 w hw hap=>?_))
 · calc (rows.length+srows.length) * bytes≤1000000000 * 10000:=NR h4 hb
    _≤140737488355328:=by decide
 · have hwt:∀t',dT w=some t'→σ.tok t'=true:=fun t' h'=>by
    obtain ⟨_,hw1,_⟩:=hw.app
    cases w<;>simp only [dT] at h'<;>try cases h'
    simp only [ON] at hw1
    split at hw1
    · rename_i hc;exact hc.2.2
    · cases hw1
   have hown:=Ec.own (e:=e) (s:=size) (rows:=rows++srows) hl ho.le ht
   refine ⟨hw.WL hown.le (fun t' h1 h2=>?_),fun t' h1 h3=>?_⟩
   · have:=htok t' (fun e=>hap t' e h1) h2
     simp [AN.DJ,this]
   · simp only [dT,AP] at h1
     subst h1
     rw [hwt _ h3] at ht;cases ht
end Go.Ab
namespace Go.Ab
open Go.Proofs
end Go.Ab
namespace Go.Ab
open Go.Proofs
theorem nQ {s:Str} {k:Int} {t:Str} (h:Cc s= .ok (k,t)) (hl:s.length≤20000) (hk:k=3):Zt t:=by
 match s,h with
 |b::r,h=>
  simp only [Cc] at h
  split at h
  · split at h
    · cases h
    · split at h
      · cases h;omega
      · split at h<;>(cases h;omega)
  · split at h
    · rename_i hd
      split at h
      · cases h
      · split at h
        · rename_i hv
          simp only [D2,BH] at h
          obtain ⟨_,rfl⟩:=h
          refine .inr ⟨?_,YZ,hv,Az (Fz _ _) hl⟩
          rw [B8,if_pos (show Db GM b=true from hd)];simp
        · cases h
    · split at h
      · cases h
      · cases h;omega
theorem V3:∀(n:Nat) (rest:Str) (i:Nat) (acc:List Tok),rest.length≤20000→NOk acc→(Cd n rest i acc).2.2=0→NOk (Cd n rest i acc).1
 |0,rest,i,acc,_,_,_=>fun t ht=>by cases ht
 |n+1,[],i,acc,_,ha,_=>fun t ht hk=>by
  rcases BF.1 ht with ht|ht
  · exact ha t ht hk
  · rw [Da] at ht;subst ht;cases hk
 |n+1,b::r,i,acc,hl,ha,h=>by
  rw [Cd] at h ⊢
  split at h
  · rename_i hb
    rw [if_pos hb]
    exact V3 n r (i+1) acc (by simp at hl;omega) ha h
  · rename_i hb
    rw [if_neg hb]
    split at h
    · rename_i hc
      rw [if_pos hc]
      exact V3 n _ _ acc (by rw [Ad];omega) ha h
    · rename_i hc
      rw [if_neg hc]
      cases hs:Cc (b::r) with
      |error e=>
       rw [hs] at h
       simp only at h
       rcases MQ hs with rfl|rfl<;>cases h
      |ok x=>
       obtain ⟨k,t⟩:=x
       rw [hs] at h
       simp only at h ⊢
       refine V3 n _ _ _ (by rw [Ad];omega) (fun u hu hk=>?_) h
       rcases BF.1 hu with hu|hu
       · exact ha u hu hk
       · rw [Da] at hu;subst hu;exact nQ hs hl hk
theorem jR {s:Str} (h:(Ao s).2.2=0):NOk (Ao s).1:=by
 unfold Ao at h ⊢
 split at h
 · cases h
 · rename_i hl
   rw [if_neg hl]
   exact V3 _ s 0 [] (by omega) (fun t ht=>by cases ht) h
theorem tG (i:Nat) (L:List Tok):PC 129 [.gp i 0] i L BC Zv ceA:=by
 intro σ s0 g0 h0 l0 b0
 refine R8 (by simp) ?_
 rw [BO]
 simp only [Zv,tyR,run_bind,run_pure,ceA,CE.enc,AE,AH]
 (have c0:=(Qz i L BC) σ s0 g0 h0 (by omega) b0;have h1:=h0.run (Ev);have l1:=PM.le (Ev) h0.wf;generalize (Ev).run s0=y at c0 h1 l1 ⊢;obtain ⟨x0,s1⟩:=y;simp only at c0 h1 l1 ⊢;have b1:(σ.AL i (psA L s1)).blk i=some (psA L s1):=(by rw [AO,if_pos rfl]))
 (have c1:=((Ie i L BC Vy (n9 i L BC)).pc.mono (Nat.le_succ BC)) (σ.AL i (psA L s1)) s1 g0 h1 (by omega) b1;rw [A1] at c1;have h2:=h1.run (Hf (FZ BC));have l2:=PM.le (Hf (FZ BC)) h1.wf;generalize (Hf (FZ BC)).run s1=y at c1 h2 l2 ⊢;obtain ⟨x1,s2⟩:=y;simp only at c1 h2 l2 ⊢;have b2:(σ.AL i (psA L s2)).blk i=some (psA L s2):=(by rw [AO,if_pos rfl]))
 (repeat' (first|refine Run.ct rfl ?_|((first|refine Run.reg mixed ?_|refine Run.AM ?_|refine Run.Ag LH (AN.le_refl _) ?_|(refine AG.upd c0 ?_)|(refine AG.upd c1 ?_)|(refine AQ rfl (fun h=>?_) (fun h=>?_)<;>try (cases h;done)))<;>try simp -implicitDefEqProofs only [go_sem])|(refine ⟨fun h=>?_,fun h=>?_⟩<;>first|(cases h;done)|try simp only [h])|fail))
theorem oX (i:Nat) (L:List Tok):PC 66 [.gp i 0] i L BC SN deA:=by
 intro σ s0 g0 h0 l0 b0
 refine QV (by simp) ?_
 rw [BO]
 simp only [SN,run_bind,run_pure,deA,DE.enc,AE,AH]
 (have c0:=(Qz i L BC) σ s0 g0 h0 (by omega) b0;have h1:=h0.run (Ev);have l1:=PM.le (Ev) h0.wf;generalize (Ev).run s0=y at c0 h1 l1 ⊢;obtain ⟨x0,s1⟩:=y;simp only at c0 h1 l1 ⊢;have b1:(σ.AL i (psA L s1)).blk i=some (psA L s1):=(by rw [AO,if_pos rfl]))
 (have c1:=((Nk i L BC Y9 (Og i L BC)).pc.mono (Nat.le_succ BC)) (σ.AL i (psA L s1)) s1 g0 h1 (by omega) b1;rw [A1] at c1;have h2:=h1.run (Hf FP);have l2:=PM.le (Hf FP) h1.wf;generalize (Hf FP).run s1=y at c1 h2 l2 ⊢;obtain ⟨x1,s2⟩:=y;simp only at c1 h2 l2 ⊢;have b2:(σ.AL i (psA L s2)).blk i=some (psA L s2):=(by rw [AO,if_pos rfl]))
 (have c2:=(Cq i L BC [61] (by decide)) (σ.AL i (psA L s2)) s2 g0 h2 (by omega) b2;rw [A1] at c2;have h3:=h2.run (PM.exp [61] (by decide));have l3:=PM.le (PM.exp [61] (by decide)) h2.wf;generalize (PM.exp [61] (by decide)).run s2=y at c2 h3 l3 ⊢;obtain ⟨x2,s3⟩:=y;simp only at c2 h3 l3 ⊢;have b3:(σ.AL i (psA L s3)).blk i=some (psA L s3):=(by rw [AO,if_pos rfl]))
 (have c3:=(Q8 i L BC tP (tG i L) [124] (by decide)).pc (σ.AL i (psA L s3)) s3 g0 h3 (by omega) b3;rw [A1] at c3;have h4:=h3.run (items Zv [124] (by decide));have l4:=PM.le (items Zv [124] (by decide)) h3.wf;generalize (items Zv [124] (by decide)).run s3=y at c3 h4 l4 ⊢;obtain ⟨x3,s4⟩:=y;simp only at c3 h4 l4 ⊢;have b4:(σ.AL i (psA L s4)).blk i=some (psA L s4):=(by rw [AO,if_pos rfl]))
 (have c4:=(Cq i L BC [59] (by decide)) (σ.AL i (psA L s4)) s4 g0 h4 (by omega) b4;rw [A1] at c4;have h5:=h4.run (PM.exp [59] (by decide));have l5:=PM.le (PM.exp [59] (by decide)) h4.wf;generalize (PM.exp [59] (by decide)).run s4=y at c4 h5 l5 ⊢;obtain ⟨x4,s5⟩:=y;simp only at c4 h5 l5 ⊢;have b5:(σ.AL i (psA L s5)).blk i=some (psA L s5):=(by rw [AO,if_pos rfl]))
 (repeat' (first|refine Run.ct rfl ?_|((first|refine Run.reg mixed ?_|refine Run.AM ?_|refine Run.Ag KI (AN.le_refl _) ?_|(refine AG.upd c0 ?_)|(refine AG.upd c1 ?_)|(refine AG.upd c2 ?_)|(refine AG.upd c3 ?_)|(refine AG.upd c4 ?_)|(refine AQ rfl (fun h=>?_) (fun h=>?_)<;>try (cases h;done)))<;>try simp -implicitDefEqProofs only [go_sem])|(refine ⟨fun h=>?_,fun h=>?_⟩<;>first|(cases h;done)|try simp only [h])|fail))
theorem tM (i:Nat) {L:List Tok} (hN:NOk L):PC 67 [.gp i 0] i L BC X8 feA:=by
 intro σ s0 g0 h0 l0 b0
 refine R9 (by simp) ?_
 rw [BO]
 simp only [X8,exR,run_bind,run_pure]
 (have c0:=(Og i L BC) σ s0 g0 h0 (by omega) b0;have h1:=h0.run (FP);have l1:=PM.le (FP) h0.wf;generalize (FP).run s0=y at c0 h1 l1 ⊢;obtain ⟨x0,s1⟩:=y;simp only at c0 h1 l1 ⊢;have b1:(σ.AL i (psA L s1)).blk i=some (psA L s1):=(by rw [AO,if_pos rfl]))
 (have c1:=(Cq i L BC [40] (by decide)) (σ.AL i (psA L s1)) s1 g0 h1 (by omega) b1;rw [A1] at c1;have h2:=h1.run (PM.exp [40] (by decide));have l2:=PM.le (PM.exp [40] (by decide)) h1.wf;generalize (PM.exp [40] (by decide)).run s1=y at c1 h2 l2 ⊢;obtain ⟨x1,s2⟩:=y;simp only at c1 h2 l2 ⊢;have b2:(σ.AL i (psA L s2)).blk i=some (psA L s2):=(by rw [AO,if_pos rfl]))
 (have c2:=(N0 i L BC Y9 (Og i L BC)).pc (σ.AL i (psA L s2)) s2 g0 h2 (by omega) b2;rw [A1] at c2;have h3:=h2.run (closed FP);have l3:=PM.le (closed FP) h2.wf;generalize (closed FP).run s2=y at c2 h3 l3 ⊢;obtain ⟨x2,s3⟩:=y;simp only at c2 h3 l3 ⊢;have b3:(σ.AL i (psA L s3)).blk i=some (psA L s3):=(by rw [AO,if_pos rfl]))
 (have c3:=(Cq i L BC [61] (by decide)) (σ.AL i (psA L s3)) s3 g0 h3 (by omega) b3;rw [A1] at c3;have h4:=h3.run (PM.exp [61] (by decide));have l4:=PM.le (PM.exp [61] (by decide)) h3.wf;generalize (PM.exp [61] (by decide)).run s3=y at c3 h4 l4 ⊢;obtain ⟨x3,s4⟩:=y;simp only at c3 h4 l4 ⊢;have b4:(σ.AL i (psA L s4)).blk i=some (psA L s4):=(by rw [AO,if_pos rfl]))
 (have c4:=(eT i hN BC) (σ.AL i (psA L s4)) s4 g0 h4 (by omega) b4;rw [A1] at c4;have h5:=h4.run (Bt BC);have l5:=PM.le (Bt BC) h4.wf;generalize (Bt BC).run s4=y at c4 h5 l5 ⊢;obtain ⟨x4,s5⟩:=y;simp only at c4 h5 l5 ⊢;have b5:(σ.AL i (psA L s5)).blk i=some (psA L s5):=(by rw [AO,if_pos rfl]);obtain ⟨o4,n4,u4,ns4,ks4,al4⟩:=x4;simp only [exA,Ex.A3,AE,AH] at c4 ⊢)
 (have c5:=(Cq i L BC [59] (by decide)) (σ.AL i (psA L s5)) s5 g0 h5 (by omega) b5;rw [A1] at c5;have h6:=h5.run (PM.exp [59] (by decide));have l6:=PM.le (PM.exp [59] (by decide)) h5.wf;generalize (PM.exp [59] (by decide)).run s5=y at c5 h6 l6 ⊢;obtain ⟨x5,s6⟩:=y;simp only at c5 h6 l6 ⊢;have b6:(σ.AL i (psA L s6)).blk i=some (psA L s6):=(by rw [AO,if_pos rfl]))
 simp only [feA,FE.enc,Ex.A3,AE,AH]
 (repeat' (first|refine Run.ct rfl ?_|((first|refine Run.reg mixed ?_|refine Run.AM ?_|refine Run.Ag LI (AN.le_refl _) ?_|(refine AG.upd c0 ?_)|(refine AG.upd c1 ?_)|(refine AG.upd c2 ?_)|(refine AG.upd c3 ?_)|(refine AG.upd c4 ?_)|(refine AG.upd c5 ?_)|(refine AQ rfl (fun h=>?_) (fun h=>?_)<;>try (cases h;done)))<;>try simp -implicitDefEqProofs only [go_sem])|(refine ⟨fun h=>?_,fun h=>?_⟩<;>first|(cases h;done)|try simp only [h])|fail))
theorem Va.of {σ τ:AN} {i e z:Nat} {rows:List (List DV)} {v:AV} (hg:Va σ) (h:Ec (σ.De i) e z rows v τ):Va τ:=by
 obtain ⟨te,pe,he⟩:=hg
 exact ⟨te,pe,by rw [← h.le.gt];exact he⟩
set_option maxHeartbeats 2000000 in
theorem dC (i:Nat) {L:List Tok} (hN:NOk L):PC 28 [.gp i 0] i L BC KY pgA:=by
 intro σ s0 g0 h0 l0 b0
 refine N8 (by simp) ?_
 rw [BO]
 (repeat' (first|refine Run.ct rfl ?_|((first|refine Run.reg mixed ?_|refine Run.AM ?_|(refine AQ rfl (fun h=>?_) (fun h=>?_)<;>try (cases h;done)))<;>try simp -implicitDefEqProofs only [go_sem])|(refine ⟨fun h=>?_,fun h=>?_⟩<;>first|(cases h;done)|try simp only [h])|fail))
 refine Run.Co ?_
 have hf0:=FI
 have hl0:=h0.suf.length_le
 have hl1:=h0.len
 have hdel:(σ.De i).le σ:=⟨fun j c hj=>by
  have:j≠i:=fun e=>by rw [e] at hj;simp [AN.De] at hj
  simpa [AN.De,this] using hj,fun _ h=>h,rfl,fun _ _ h=>h⟩
 refine Run.Cp (α:=PSt×List DE×List FE×Nat×AV×AV×AN) (fun _=>put 0 (.gp i 0) (put 2 (.lp 2 0) (put 3 (.lp 3 0) U))) (fun y=>Be 2 [.AW,.AW] (Be 3 [y.2.2.2.2.1,y.2.2.2.2.2.1] Ab.E)) (fun y=>y.2.2.2.2.2.2)
  (fun y=>POk L y.1∧y.1.r.length≤y.2.2.2.1∧y.2.1.length+y.2.2.1.length+y.1.r.length≤17000∧Ec (σ.De i) 61 3 (y.2.1.map DE.enc) y.2.2.2.2.1 y.2.2.2.2.2.2∧Ec (σ.De i) 66 8 (y.2.2.1.map FE.enc) y.2.2.2.2.2.1 y.2.2.2.2.2.2∧V7 y.2.2.2.2.1 y.2.2.2.2.2.1∧y.2.2.2.2.2.2.blk i=some (psA L y.1)∧(LL y.2.2.2.1 y.2.1 y.2.2.1).run y.1=KY.run s0) (fun y=>y.1.r.length) ?_ (s0,[],[],BC,.AW,.AW,σ)
  ⟨h0,by simp only;omega,by simp;omega,Ec.mono (Ec.nil σ _ _) hdel,Ec.mono (Ec.nil σ _ _) hdel,bA _,b0,rfl⟩
 rintro ⟨s2,ds,fs,q,vd,vf,τ⟩ ⟨p1,p2,p3,p4,p5,p6,p7,p8⟩ ih
 simp only at p1 p2 p3 p4 p5 p6 p7 p8
 obtain ⟨q,rfl⟩:∃m,q=m+1:=⟨q - 1,by have:=Aq.2 p1.wf.ne;omega⟩
 rw [nI] at p8
 have hpk:=Oj p1 τ p7
 have hgt:Va τ:=g0.of p4
 have hn1:vd.BQ 3=false:=p4.BQ 3
 cases hk:s2.hd.kind==6 with
 |true=>
  rw [hk,if_pos rfl] at p8
  rw [← p8]
  have hne:(s2.hd.kind != 6)=false:=by unfold bne;rw [hk];rfl
  simp only [pgA,Pg.enc,AE,AH]
  have hle:=(LS.mk p4 p7:LS σ i L s2 _ _ _ _ _).le
  (repeat' (first|refine Run.ct rfl ?_|((first|refine Run.reg mixed ?_|refine Run.AM ?_|(refine Run.Ag Hr hle ?_)|refine AG.det (hpk) ?_|(refine AQ rfl (fun h=>?_) (fun h=>?_)<;>try (cases h;done)))<;>try simp -implicitDefEqProofs only [hne,p4.BQ,p5.BQ,p4.At,p5.At,p4.cell,p5.cell,p4.plain,p5.plain,if_true,go_sem])|(refine ⟨fun h=>?_,fun h=>?_⟩<;>first|(cases h;done)|try simp only [h])|fail))
 |false=>
  have hne:(s2.hd.kind != 6)=true:=by unfold bne;rw [hk];rfl
  rw [hk,if_neg (by decide)] at p8
  cases t1:s2.hd.text==[100,97,116,97] with
  |true=>
   rw [t1,if_pos rfl] at p8
   have c1:=Cn p1 _ τ p7 t1
   have h3:=p1.adv (t:=[100,97,116,97]) (by decide) t1
   have l3:=BP p1.wf
   generalize s2.adv=s3 at c1 h3 l3 p8
   have c2:=oX i L (τ.AL i (psA L s3)) s3 hgt h3 (by omega) (by rw [AO,if_pos rfl])
   rw [A1] at c2
   have h4:=h3.run SN
   have l4:=PM.le SN h3.wf
   generalize SN.run s3=y at c2 h4 l4 p8
   obtain ⟨d,s4⟩:=y
   simp only at c2 h4 l4 p8
   obtain ⟨dn,dv,dc⟩:=d
   simp only [deA,DE.enc,AE,AH] at c2
   have q4:=p4.dH (Lt σ i) (psA L s4)
   have q5:=p5.dH (Lt σ i) (psA L s4)
   (repeat' (first|refine Run.ct rfl ?_|((first|refine Run.reg mixed ?_|refine Run.AM ?_|(refine AG.upd c1 ?_)|(refine AG.upd c2 ?_)|refine AG.det (hpk) ?_|(refine AQ rfl (fun h=>?_) (fun h=>?_)<;>try (cases h;done)))<;>try simp -implicitDefEqProofs only [hne,p4.BQ,p5.BQ,p4.cell,p5.cell,p4.cells,p5.cells,if_true,go_sem])|(refine ⟨fun h=>?_,fun h=>?_⟩<;>first|(cases h;done)|try simp only [h])|fail))
   (apply NT.wO (cx:=Bb) q4;rfl;simp;(simp only [AI,AD,AF];omega);decide;intro v2 τ2 ho hbk hkp)
   obtain ⟨r5,r6⟩:=hkp _ _ _ _ q5 p6
   simp -implicitDefEqProofs only [ho.BQ,ho.At,ho.cells,ho.cell,p4.cell,p5.cell,if_true,go_sem]
   (repeat' (first|refine Run.ct rfl ?_|((first|refine Run.reg mixed ?_|refine Run.AM ?_|(refine AQ rfl (fun h=>?_) (fun h=>?_)<;>try (cases h;done)))<;>try simp -implicitDefEqProofs only [ho.BQ,ho.At,ho.cells,ho.cell,go_sem])|(refine ⟨fun h=>?_,fun h=>?_⟩<;>first|(cases h;done)|try simp only [h])|fail))
   refine ih (s4,ds++[⟨dn,dv,dc⟩],fs,q,v2,vf,τ2) ⟨h4,by simp only;omega,by simp only [AA,AD,AF];omega,?_,r5,r6,by simp [hbk,AO],p8⟩ (by simp only;omega)
   simp only [B1,AE,AH,DE.enc]
   exact ho
  |false=>
  have f1:=Cm p1 _ τ p7 t1
  rw [t1,if_neg (by decide)] at p8
  cases t2:s2.hd.text==[102,117,110] with
  |true=>
   rw [t2,if_pos rfl] at p8
   have c1:=Cn p1 _ τ p7 t2
   have h3:=p1.adv (t:=[102,117,110]) (by decide) t2
   have l3:=BP p1.wf
   generalize s2.adv=s3 at c1 h3 l3 p8
   have c2:=tM i hN (τ.AL i (psA L s3)) s3 hgt h3 (by omega) (by rw [AO,if_pos rfl])
   rw [A1] at c2
   have h4:=h3.run X8
   have l4:=PM.le X8 h3.wf
   generalize X8.run s3=y at c2 h4 l4 p8
   obtain ⟨d,s4⟩:=y
   simp only at c2 h4 l4 p8
   obtain ⟨fn,fp,fb⟩:=d
   obtain ⟨o0,n0,u0,ns0,ks0,al0⟩:=fb
   simp only [feA,FE.enc,Ex.A3,AE,AH] at c2
   have q4:=p4.dH (Lt σ i) (psA L s4)
   have q5:=p5.dH (Lt σ i) (psA L s4)
   (repeat' (first|refine Run.ct rfl ?_|((first|refine Run.reg mixed ?_|refine Run.AM ?_|(refine AG.upd c1 ?_)|(refine AG.upd c2 ?_)|refine AG.det (hpk) ?_|refine AG.det (f1) ?_|(refine AQ rfl (fun h=>?_) (fun h=>?_)<;>try (cases h;done)))<;>try simp -implicitDefEqProofs only [hne,p4.BQ,p5.BQ,p4.cell,p5.cell,p4.cells,p5.cells,if_true,go_sem])|(refine ⟨fun h=>?_,fun h=>?_⟩<;>first|(cases h;done)|try simp only [h])|fail))
   (apply NT.wO (cx:=Bb) q5;rfl;simp;(simp only [AI,AD,AF];omega);decide;intro v2 τ2 ho hbk hkp)
   obtain ⟨r5,r6⟩:=hkp _ _ _ _ q4 p6.symm
   simp -implicitDefEqProofs only [ho.BQ,ho.At,ho.cells,ho.cell,p4.cell,p5.cell,if_true,go_sem]
   (repeat' (first|refine Run.ct rfl ?_|((first|refine Run.reg mixed ?_|refine Run.AM ?_|(refine AQ rfl (fun h=>?_) (fun h=>?_)<;>try (cases h;done)))<;>try simp -implicitDefEqProofs only [ho.BQ,ho.At,ho.cells,ho.cell,go_sem])|(refine ⟨fun h=>?_,fun h=>?_⟩<;>first|(cases h;done)|try simp only [h])|fail))
   refine ih (s4,ds,fs++[⟨fn,fp,.mk o0 n0 u0 ns0 ks0 al0⟩],q,vd,v2,τ2) ⟨h4,by simp only;omega,by simp only [AA,AD,AF];omega,r5,?_,r6.symm,by simp [hbk,AO],p8⟩ (by simp only;omega)
   simp only [B1,AE,AH,FE.enc,Ex.A3]
   exact ho
  |false=>
  have f2:=Cm p1 _ τ p7 t2
  rw [t2,if_neg (by decide)] at p8
  have c1:=TP p1 τ p7
  have h3:=p1.fail
  have l3:=Z5 p1.wf
  have h2':=uW p1.wf hk
  have q4:=p4.dH (Lt σ i) (psA L s2.fail)
  have q5:=p5.dH (Lt σ i) (psA L s2.fail)
  (repeat' (first|refine Run.ct rfl ?_|((first|refine Run.reg mixed ?_|refine Run.AM ?_|(refine AG.upd c1 ?_)|refine AG.det (hpk) ?_|refine AG.det (f1) ?_|refine AG.det (f2) ?_|(refine AQ rfl (fun h=>?_) (fun h=>?_)<;>try (cases h;done)))<;>try simp -implicitDefEqProofs only [hne,p4.BQ,p5.BQ,p4.cell,p5.cell,p4.cells,p5.cells,if_true,go_sem])|(refine ⟨fun h=>?_,fun h=>?_⟩<;>first|(cases h;done)|try simp only [h])|fail))
  exact ih (s2.fail,ds,fs,q,vd,vf,_) ⟨h3,by simp only;omega,by simp only;omega,q4,q5,p6,by simp [AO],p8⟩ (by simp only;omega)
end Go.Ab
namespace Go.Ab
open Go.Proofs
def cU (r:Pg×Nat×Int):AV:= .tup [pgA r.1,.d (.int .i64 ((r.2.1:Nat):Int)),.d (.int .i64 r.2.2)]
theorem wP (L:List Tok):[AV.d (.sl (L.map Tok.enc)),.d (.int .i64 0),.d (.bool false),.d (.int .i64 0)]=psA L ⟨L,false,0⟩:=by
 unfold psA Wz;simp
theorem pN {σ:AN} {j:Nat} (h:σ.blk j=none) (cs:List AV):σ.le (σ.AL j cs):=VZ (AN.le_refl σ) h cs
theorem Ku (src:Str) (σ:AN) (g0:Va σ):AT Tryz.prog 12 [.d (.str src)] σ (fun v σ'=>v=cU (Dg src)∧σ'=σ):=by
 refine WA (by simp) ?_
 rw [BO]
 have hsp:=MV src σ
 by_cases he:(Ao src).2.2=0
 · obtain ⟨hw,ho⟩:=aJ he
   have hN:=jR he
   have hne:((Ao src).2.2 != 0)=false:=by rw [he];rfl
   rw [Oh he]
   have hprog:=fun (j:Nat) (hj:σ.blk j=none)=>dC j hN (σ.AL j (psA (Ao src).1 ⟨(Ao src).1,false,0⟩)) ⟨(Ao src).1,false,0⟩ g0 ⟨hw,List.suffix_refl _,ho.1⟩ (by have:=FI;have:=ho.1;simp only;omega) (by rw [AO,if_pos rfl])
   have hsm:=aB (p:=0) hw ho.1
   simp only [Qv] at hsp
   generalize (Ao src).1=L at hsp hw ho hN hprog hsm ⊢
   generalize (Ao src).2.1=pos at hsp ⊢
   rw [he] at hsp
   generalize KY.run ⟨L,false,0⟩=y at hprog hsm ⊢
   obtain ⟨p,s1⟩:=y
   simp only at hprog hsm
   simp only [A1] at hprog
   obtain ⟨ds,fs⟩:=p
   simp only [pgA,Pg.enc,AE,AH] at hprog
   have h00:((0:Int) != 0)=false:=rfl
   (repeat' (first|refine Run.ct rfl ?_|((first|refine Run.reg mixed ?_|refine Run.AM ?_|refine AG.det (hsp) ?_|(refine AQ rfl (fun h=>?_) (fun h=>?_)<;>try (cases h;done)))<;>try simp -implicitDefEqProofs only [h00,go_sem])|(refine ⟨fun h=>?_,fun h=>?_⟩<;>first|(cases h;done)|try simp only [h])|fail))
   intro j hj
   have hle:=pN hj (psA L s1)
   have hb:(σ.AL j (psA L s1)).blk j=some (psA L s1):=by rw [AO,if_pos rfl]
   have hst:psA L s1=[.d (Wz L),.d (.int .i64 ((L.length - s1.r.length:Nat):Int)),.d (.bool s1.f),.d (.int .i64 ((s1.p:Nat):Int))]:=rfl
   rw [wP]
   cases hf:s1.f with
   |true=>
    rw [hf] at hst
    have hfin:XW (⟨ds,fs⟩,s1)=(⟨[],[]⟩,s1.p,2):=if_pos hf
    rw [hfin]
    simp only [cU,pgA,Pg.enc,AE,AH]
    (repeat' (first|refine Run.ct rfl ?_|((first|refine Run.reg mixed ?_|refine Run.AM ?_|(refine AG.upd (hprog j hj) ?_)|(refine AQ rfl (fun h=>?_) (fun h=>?_)<;>try (cases h;done)))<;>try simp -implicitDefEqProofs only [hst,hf,go_sem])|(refine ⟨fun h=>?_,fun h=>?_⟩<;>first|(cases h;done)|try simp only [h])|fail))
    rw [← hst]
    refine Run.Qi mixed ?_;simp -implicitDefEqProofs only [hst,hf,go_sem]
    rw [← hst]
    (repeat' (first|refine Run.ct rfl ?_|((first|refine Run.reg mixed ?_|refine Run.AM ?_|(refine Run.Ag G0 hle ?_)|(refine AQ rfl (fun h=>?_) (fun h=>?_)<;>try (cases h;done)))<;>try simp -implicitDefEqProofs only [go_sem])|(refine ⟨fun h=>?_,fun h=>?_⟩<;>first|(cases h;done)|try simp only [h])|fail))
   |false=>
    rw [hf] at hst
    have hV:=PS ⟨ds,fs⟩ (σ.AL j (psA L s1)) (fun d hd c hc t ht=>Az (hsm hf d hd c hc t ht) (by omega))
    simp only [pgA,Pg.enc,AE,AH] at hV
    have hfin:XW (⟨ds,fs⟩,s1)=if E6 ⟨ds,fs⟩ then (⟨ds,fs⟩,0,0) else (⟨[],[]⟩,0,9):=if_neg (by rw [hf];decide)
    rw [hfin]
    cases hv:E6 ⟨ds,fs⟩ with
    |true=>
     rw [hv] at hV
     simp only [if_true,cU,pgA,Pg.enc,AE,AH]
     (repeat' (first|refine Run.ct rfl ?_|((first|refine Run.reg mixed ?_|refine Run.AM ?_|(refine AG.upd (hprog j hj) ?_)|(refine AQ rfl (fun h=>?_) (fun h=>?_)<;>try (cases h;done)))<;>try simp -implicitDefEqProofs only [hst,hf,go_sem])|(refine ⟨fun h=>?_,fun h=>?_⟩<;>first|(cases h;done)|try simp only [h])|fail))
     rw [← hst]
     (repeat' (first|refine Run.ct rfl ?_|((first|refine Run.reg mixed ?_|refine Run.AM ?_|(refine Run.Ag G0 hle ?_)|refine AG.det (hV) ?_|(refine AQ rfl (fun h=>?_) (fun h=>?_)<;>try (cases h;done)))<;>try simp -implicitDefEqProofs only [hf,go_sem])|(refine ⟨fun h=>?_,fun h=>?_⟩<;>first|(cases h;done)|try simp only [h])|fail))
     rfl
    |false=>
     rw [hv] at hV
     simp only [if_false,AY,cU,pgA,Pg.enc,AE,AH]
     (repeat' (first|refine Run.ct rfl ?_|((first|refine Run.reg mixed ?_|refine Run.AM ?_|(refine AG.upd (hprog j hj) ?_)|(refine AQ rfl (fun h=>?_) (fun h=>?_)<;>try (cases h;done)))<;>try simp -implicitDefEqProofs only [hst,hf,go_sem])|(refine ⟨fun h=>?_,fun h=>?_⟩<;>first|(cases h;done)|try simp only [h])|fail))
     rw [← hst]
     (repeat' (first|refine Run.ct rfl ?_|((first|refine Run.reg mixed ?_|refine Run.AM ?_|(refine Run.Ag G0 hle ?_)|refine AG.det (hV) ?_|(refine AQ rfl (fun h=>?_) (fun h=>?_)<;>try (cases h;done)))<;>try simp -implicitDefEqProofs only [hf,go_sem])|(refine ⟨fun h=>?_,fun h=>?_⟩<;>first|(cases h;done)|try simp only [h])|fail))
     rfl
 · have hne:((Ao src).2.2 != 0)=true:=by simpa using he
   have hp:Dg src=(⟨[],[]⟩,(Ao src).2.1,(Ao src).2.2):=if_pos he
   rw [hp]
   simp only [Qv] at hsp
   simp only [cU,pgA,Pg.enc,AE,AH]
   (repeat' (first|refine Run.ct rfl ?_|((first|refine Run.reg mixed ?_|refine Run.AM ?_|refine Run.Ag G0 (AN.le_refl _) ?_|refine AG.det (hsp) ?_|(refine AQ rfl (fun h=>?_) (fun h=>?_)<;>try (cases h;done)))<;>try simp -implicitDefEqProofs only [hne,go_sem])|(refine ⟨fun h=>?_,fun h=>?_⟩<;>first|(cases h;done)|try simp only [h])|fail))
end Go.Ab
namespace Go.Ab
open Go.Proofs
def Xl:Str:=[102,117,110,32,102,40,120,41,61,105,102,32,120,60,61,48,32,116,104,101,110,40,41,32,101,108,115,101,32,102,40,120,45,49,41,59]
def kK:Str:=[102,117,110,32,102,40,120,41,32,61,32,105,102,32,120,32,60,61,32,48,32,116,104,101,110,32,40,41,32,101,108,115,101,32,102,40,120,32,45,32,49,41,59,10]
def nmE (s:Str):Ex:= .mk 4 s 0 [] [] []
def awE:Ex:= .mk 9 [] 0 [] [.mk 13 [] 7 [] [nmE [120],.mk 3 [] 0 [] [] []] [],.mk 1 [] 0 [] [] [],.mk 12 [] 0 [] [nmE [102],.mk 13 [] 2 [] [nmE [120],.mk 3 [] 1 [] [] []] []] []] []
def awQ:Pg:=⟨[],[⟨[102],[[120]],awE⟩]⟩
theorem eW:Lib.itoa 0=[48]∧Lib.itoa 1=[49]:=by
 constructor<;>simp [Lib.itoa,Lib.decDigits]
theorem Y0:XX awQ=kK:=by
 have h0:=eW.1
 have h1:=eW.2
 have e1:Ax (.mk 3 [] 0 [] [] [])=[48]:=by rw [← h0];rfl
 have e2:Ax (.mk 3 [] 1 [] [] [])=[49]:=by rw [← h1];rfl
 have e3:Ax (.mk 13 [] 7 [] [nmE [120],.mk 3 [] 0 [] [] []] [])=[120,32,60,61,32]++Ax (.mk 3 [] 0 [] [] []):=rfl
 have e4:Ax (.mk 13 [] 2 [] [nmE [120],.mk 3 [] 1 [] [] []] [])=[120,32,45,32]++Ax (.mk 3 [] 1 [] [] []):=rfl
 have e6:Ax (.mk 12 [] 0 [] [nmE [102],.mk 13 [] 2 [] [nmE [120],.mk 3 [] 1 [] [] []] []] [])=[102,40]++(Lib.join [Ax (.mk 13 [] 2 [] [nmE [120],.mk 3 [] 1 [] [] []] [])] [44,32]++[41]):=rfl
 have e7:Ax awE=[105,102,32]++(Ax (.mk 13 [] 7 [] [nmE [120],.mk 3 [] 0 [] [] []] [])++([32,116,104,101,110,32]++([40,41]++([32,101,108,115,101,32]++Ax (.mk 12 [] 0 [] [nmE [102],.mk 13 [] 2 [] [nmE [120],.mk 3 [] 1 [] [] []] []] []))))):=rfl
 have e8:XX awQ=(([102,117,110,32]++([102]++(ID [[120]]++([32,61,32]++(Ax awE++[59,10])))))++[]):=rfl
 have e9:ID [[120]]=[40,120,41]:=by decide
 rw [e8,e7,e6,Lib.join_one,e3,e4,e1,e2,e9];rfl
theorem Xk:E6 awQ=true:=by decide+kernel
theorem gN:(Ao Xl).2.2=0∧(Ao kK).2.2=0∧strip (Ao Xl).1=strip (Ao kK).1:=by decide+kernel
theorem gM:(Dg Xl).1=awQ∧(Dg Xl).2.2=0:=by
 obtain ⟨h1,h2,h3⟩:=gN
 have hb:=cV Xk (by rw [Y0];decide)
 rw [Y0] at hb
 have hp:=Uq h1 h2 h3
 rw [hb] at hp
 exact hp
theorem WN (σ:AN) (hg:Va σ) (hp:σ.gt Qg=some Sj):AT Tryz.prog 15 [] σ (fun v σ'=>v= .d (.bool true)∧σ'=σ):=by
 have hpa:=Ku Xl σ hg
 have hfm:=U9 awQ σ hp (fun d hd=>by cases hd)
 rw [Xk,if_pos rfl,Y0] at hfm
 obtain ⟨h1,h2⟩:=gM
 generalize Dg Xl=r at hpa h1 h2
 obtain ⟨q,at',code⟩:=r
 simp only at h1 h2
 subst h1 h2
 simp only [cU,pgA,Pg.enc,AE,AH] at hpa hfm
 refine XY (by simp) ?_
 rw [show As []=U from by funext s;simp [As,U]]
 (repeat' (first|refine Run.ct rfl ?_|((first|refine Run.reg mixed ?_|refine Run.AM ?_|refine Run.Ag SG (AN.le_refl _) ?_|refine AG.det (hpa) ?_|refine AG.det (hfm) ?_|(refine AQ rfl (fun h=>?_) (fun h=>?_)<;>try (cases h;done)))<;>try simp -implicitDefEqProofs only [A5,go_sem])|(refine ⟨fun h=>?_,fun h=>?_⟩<;>first|(cases h;done)|try simp only [h])|fail))
 exact ⟨rfl,rfl⟩
end Go.Ab
namespace Go.Ab
open Go.Proofs
end Go.Ab
namespace Go.Ab
open Go.Proofs
end Go.Ab
namespace Go.Ab
open Go.Proofs
end Go.Ab
