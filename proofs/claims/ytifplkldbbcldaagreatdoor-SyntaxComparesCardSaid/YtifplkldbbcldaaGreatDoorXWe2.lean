/- Several owned slices side by side. Valid programs, as the reference looks at them. The parser: declarations, programs, Parse. Parse of the program. The sanity check of the laws of syntax. Conditions: none. -/
import Derived.Test.YtifplkldbbcldaaGreatDoorXPi
set_option linter.unusedSimpArgs false
set_option linter.unusedVariables false
set_option maxRecDepth 4000
set_option maxHeartbeats 8000000
open Nat renaming mul_le_mul→Oh,le_trans→BC
open Option.some renaming injEq→AR
open Except.ok renaming injEq→Gt
open Prod.mk renaming injEq→BY
open List renaming takeWhile_cons→Fa,mem_append→BN,mem_singleton→FB,length_drop→Aj,map_cons→AD,map_nil→AG,length_pos_iff→Ar,length_map→AF,length_cons→AE,length_nil→AH,length_append→AA,map_append→Bn
open Bool renaming false_eq_true→A1
open Int renaming reduceBEq→A7
namespace Go.Ab
def jD:AV→Option Nat
 | .own t _ _ _=>some t
 |_=>none
def X2 (v w:AV):Prop:=∀t,jD v=some t→jD w≠some t
theorem X2.symm {v w:AV} (h:X2 v w):X2 w v:=fun t h1 h2=>h t h2 h1
theorem fS (w:AV):X2 .AW w:=fun t h=>by cases h
theorem FC.YI {σ0 σ σ':AM} {e s:Nat} {rows:List (List DV)} {w:AV} (h:FC σ0 e s rows w σ) (hle:σ0.le σ') (ht:∀t,jD w=some t→σ.tok t=true→σ'.tok t=true):FC σ0 e s rows w σ':=by
 obtain ⟨⟨σ1,ha,hl⟩,_,h1,h2,h3,h4,h5,h6,h7⟩:=h
 refine ⟨?_,hle,h1,h2,h3,h4,h5,h6,h7⟩
 unfold Pk at ha ⊢
 split at ha
 · cases ha;exact ⟨σ',rfl,hle⟩
 · rename_i t e' s' rows'
   split at ha
   · rename_i hc
     cases ha
     obtain ⟨q1,q2,q3⟩:=hc
     refine ⟨σ'.FI t,by rw [if_pos ⟨q1,q2,ht t rfl q3⟩],⟨hle.blk,fun t' h'=>?_,hle.gt,hle.bt⟩⟩
     have hne:t'≠t:=fun e=>by
      have:=hl.tok t' h'
      simp [AM.FI,e] at this
     simp [AM.FI,hne,hle.tok t' h']
   · cases ha
 · cases ha
theorem Oj.AAO {cx:Cx} {K:Fm→Lm→AM→Prop} {F:Fm} {L:Lm} {σ σ0:AM} {d:Option Nat} {e size bytes:Nat} {s x:AV} {rows srows:List (List DV)} (ho:FC σ0 e size rows s σ) (h2:x.rows=some srows)
 (h3:∀r∈srows,r.length=size) (h4:rows.length+srows.length≤1000000000) (hb:bytes≤10000)
 (h:∀v σ',FC σ0 e size (rows++srows) v σ'→(∀i,σ'.blk i=σ.blk i)→(∀e2 s2 rows2 w,FC σ0 e2 s2 rows2 w σ→X2 s w→FC σ0 e2 s2 rows2 w σ'∧X2 v w)→K (Ap d v F) L σ'):Oj e size bytes s x d K F L σ:=by
 obtain ⟨σ1,ha,hl⟩:=ho.app
 have hblk:∀i,σ1.blk i=σ.blk i:=fun i=>by
  unfold Pk at ha
  split at ha
  · cases ha;rfl
  · split at ha
    · cases ha;rfl
    · cases ha
  · cases ha
 have htok:∀t,jD s≠some t→σ.tok t=true→σ1.tok t=true:=fun t hne ht=>by
  unfold Pk at ha
  split at ha
  · cases ha;exact ht
  · rename_i ts e' s' rows'
    split at ha
    · cases ha
      have:t≠ts:=fun e=>hne (by rw [e];rfl)
      simp [AM.FI,this,ht]
    · cases ha
  · cases ha
 refine Oj.mk ha h2 h3 (by simp only [maxLen];omega) ?_ (fun t ht=>h _ _ (FC.own hl ho.le ht) (fun i=>by rw [GK];exact hblk i) (fun e2 s2 rows2 w hw hap=>?_))
 · calc (rows.length+srows.length) * bytes≤1000000000 * 10000:=Oh h4 hb
    _≤140737488355328:=by decide
 · have hwt:∀t',jD w=some t'→σ.tok t'=true:=fun t' h'=>by
    obtain ⟨_,hw1,_⟩:=hw.app
    cases w<;>simp only [jD] at h'<;>try cases h'
    simp only [Pk] at hw1
    split at hw1
    · rename_i hc;exact hc.2.2
    · cases hw1
   have hown:=FC.own (e:=e) (s:=size) (rows:=rows++srows) hl ho.le ht
   refine ⟨hw.YI hown.le (fun t' h1 h2=>?_),fun t' h1 h3=>?_⟩
   · have:=htok t' (fun e=>hap t' e h1) h2
     simp [AM.D4,this]
   · simp only [jD,AR] at h1
     subst h1
     rw [hwt _ h3] at ht;cases ht
end Go.Ab
namespace Go.Ab
open Go.Proofs
end Go.Ab
namespace Go.Ab
open Go.Proofs
theorem rV {s:Str} {k:Int} {t:Str} (h:FO s= .ok (k,t)) (hl:s.length≤20000) (hk:k=3):eL t:=by
 match s,h with
 |b::r,h=>
  simp only [FO] at h
  split at h
  · split at h
    · cases h
    · split at h
      · cases h;omega
      · split at h<;>(cases h;omega)
  · split at h
    · rename_i hd
      split at h
      · cases h
      · split at h
        · rename_i hv
          simp only [Gt,BY] at h
          obtain ⟨_,rfl⟩:=h
          refine .inr ⟨?_,oQ,hv,BC (IG _ _) hl⟩
          rw [Fa,if_pos (show FW Ix b=true from hd)];simp
        · cases h
    · split at h
      · cases h
      · cases h;omega
theorem XY:∀(n:Nat) (rest:Str) (i:Nat) (acc:List Tok),rest.length≤20000→NOk acc→(E5 n rest i acc).2.2=0→NOk (E5 n rest i acc).1
 |0,rest,i,acc,_,_,_=>fun t ht=>by cases ht
 |n+1,[],i,acc,_,ha,_=>fun t ht hk=>by
  rcases BN.1 ht with ht|ht
  · exact ha t ht hk
  · rw [FB] at ht;subst ht;cases hk
 |n+1,b::r,i,acc,hl,ha,h=>by
  rw [E5] at h ⊢
  split at h
  · rename_i hb
    rw [if_pos hb]
    exact XY n r (i+1) acc (by simp at hl;omega) ha h
  · rename_i hb
    rw [if_neg hb]
    split at h
    · rename_i hc
      rw [if_pos hc]
      exact XY n _ _ acc (by rw [Aj];omega) ha h
    · rename_i hc
      rw [if_neg hc]
      cases hs:FO (b::r) with
      |error e=>
       rw [hs] at h
       simp only at h
       rcases P5 hs with rfl|rfl<;>cases h
      |ok x=>
       obtain ⟨k,t⟩:=x
       rw [hs] at h
       simp only at h ⊢
       refine XY n _ _ _ (by rw [Aj];omega) (fun u hu hk=>?_) h
       rcases BN.1 hu with hu|hu
       · exact ha u hu hk
       · rw [FB] at hu;subst hu;exact rV hs hl hk
theorem nV {s:Str} (h:(BR s).2.2=0):NOk (BR s).1:=by
 unfold BR at h ⊢
 split at h
 · cases h
 · rename_i hl
   rw [if_neg hl]
   exact XY _ s 0 [] (by omega) (fun t ht=>by cases ht) h
theorem xK (i:Nat) (L:List Tok):PC 129 [.gp i 0] i L BE eN ceA:=by
 intro σ s0 g0 h0 l0 b0
 refine TI (by simp) ?_
 rw [BO]
 simp only [eN,tyR,run_bind,run_pure,ceA,CE.enc,AD,AG]
 (have c0:=(Sg i L BE) σ s0 g0 h0 (by omega) b0;have h1:=h0.run (F3);have l1:=PM.le (F3) h0.wf;generalize (F3).run s0=y at c0 h1 l1 ⊢;obtain ⟨x0,s1⟩:=y;simp only at c0 h1 l1 ⊢;have b1:(σ.AL i (psA L s1)).blk i=some (psA L s1):=(by rw [AO,if_pos rfl]))
 (have c1:=((J6 i L BE Xw (sC i L BE)).pc.mono (Nat.le_succ BE)) (σ.AL i (psA L s1)) s1 g0 h1 (by omega) b1;rw [A3] at c1;have h2:=h1.run (I7 (GB BE));have l2:=PM.le (I7 (GB BE)) h1.wf;generalize (I7 (GB BE)).run s1=y at c1 h2 l2 ⊢;obtain ⟨x1,s2⟩:=y;simp only at c1 h2 l2 ⊢;have b2:(σ.AL i (psA L s2)).blk i=some (psA L s2):=(by rw [AO,if_pos rfl]))
 (repeat' (first|refine Run.ct rfl ?_|((first|refine Run.reg mixed ?_|refine Run.AJ ?_|refine Run.A9 MQ (AM.le_refl _) ?_|(refine AI.upd c0 ?_)|(refine AI.upd c1 ?_)|(refine AP rfl (fun h=>?_) (fun h=>?_)<;>try (cases h;done)))<;>try simp -implicitDefEqProofs only [go_sem])|(refine ⟨fun h=>?_,fun h=>?_⟩<;>first|(cases h;done)|try simp only [h])|fail))
theorem tA (i:Nat) (L:List Tok):PC 66 [.gp i 0] i L BE Tp deA:=by
 intro σ s0 g0 h0 l0 b0
 refine SB (by simp) ?_
 rw [BO]
 simp only [Tp,run_bind,run_pure,deA,DE.enc,AD,AG]
 (have c0:=(Sg i L BE) σ s0 g0 h0 (by omega) b0;have h1:=h0.run (F3);have l1:=PM.le (F3) h0.wf;generalize (F3).run s0=y at c0 h1 l1 ⊢;obtain ⟨x0,s1⟩:=y;simp only at c0 h1 l1 ⊢;have b1:(σ.AL i (psA L s1)).blk i=some (psA L s1):=(by rw [AO,if_pos rfl]))
 (have c1:=((PL i L BE bD (QU i L BE)).pc.mono (Nat.le_succ BE)) (σ.AL i (psA L s1)) s1 g0 h1 (by omega) b1;rw [A3] at c1;have h2:=h1.run (I7 Fs);have l2:=PM.le (I7 Fs) h1.wf;generalize (I7 Fs).run s1=y at c1 h2 l2 ⊢;obtain ⟨x1,s2⟩:=y;simp only at c1 h2 l2 ⊢;have b2:(σ.AL i (psA L s2)).blk i=some (psA L s2):=(by rw [AO,if_pos rfl]))
 (have c2:=(DJ i L BE [61] (by decide)) (σ.AL i (psA L s2)) s2 g0 h2 (by omega) b2;rw [A3] at c2;have h3:=h2.run (PM.exp [61] (by decide));have l3:=PM.le (PM.exp [61] (by decide)) h2.wf;generalize (PM.exp [61] (by decide)).run s2=y at c2 h3 l3 ⊢;obtain ⟨x2,s3⟩:=y;simp only at c2 h3 l3 ⊢;have b3:(σ.AL i (psA L s3)).blk i=some (psA L s3):=(by rw [AO,if_pos rfl]))
 (have c3:=(SP i L BE xZ (xK i L) [124] (by decide)).pc (σ.AL i (psA L s3)) s3 g0 h3 (by omega) b3;rw [A3] at c3;have h4:=h3.run (items eN [124] (by decide));have l4:=PM.le (items eN [124] (by decide)) h3.wf;generalize (items eN [124] (by decide)).run s3=y at c3 h4 l4 ⊢;obtain ⟨x3,s4⟩:=y;simp only at c3 h4 l4 ⊢;have b4:(σ.AL i (psA L s4)).blk i=some (psA L s4):=(by rw [AO,if_pos rfl]))
 (have c4:=(DJ i L BE [59] (by decide)) (σ.AL i (psA L s4)) s4 g0 h4 (by omega) b4;rw [A3] at c4;have h5:=h4.run (PM.exp [59] (by decide));have l5:=PM.le (PM.exp [59] (by decide)) h4.wf;generalize (PM.exp [59] (by decide)).run s4=y at c4 h5 l5 ⊢;obtain ⟨x4,s5⟩:=y;simp only at c4 h5 l5 ⊢;have b5:(σ.AL i (psA L s5)).blk i=some (psA L s5):=(by rw [AO,if_pos rfl]))
 (repeat' (first|refine Run.ct rfl ?_|((first|refine Run.reg mixed ?_|refine Run.AJ ?_|refine Run.A9 LR (AM.le_refl _) ?_|(refine AI.upd c0 ?_)|(refine AI.upd c1 ?_)|(refine AI.upd c2 ?_)|(refine AI.upd c3 ?_)|(refine AI.upd c4 ?_)|(refine AP rfl (fun h=>?_) (fun h=>?_)<;>try (cases h;done)))<;>try simp -implicitDefEqProofs only [go_sem])|(refine ⟨fun h=>?_,fun h=>?_⟩<;>first|(cases h;done)|try simp only [h])|fail))
theorem xV (i:Nat) {L:List Tok} (hN:NOk L):PC 67 [.gp i 0] i L BE Z0 feA:=by
 intro σ s0 g0 h0 l0 b0
 refine TJ (by simp) ?_
 rw [BO]
 simp only [Z0,exR,run_bind,run_pure]
 (have c0:=(QU i L BE) σ s0 g0 h0 (by omega) b0;have h1:=h0.run (Fs);have l1:=PM.le (Fs) h0.wf;generalize (Fs).run s0=y at c0 h1 l1 ⊢;obtain ⟨x0,s1⟩:=y;simp only at c0 h1 l1 ⊢;have b1:(σ.AL i (psA L s1)).blk i=some (psA L s1):=(by rw [AO,if_pos rfl]))
 (have c1:=(DJ i L BE [40] (by decide)) (σ.AL i (psA L s1)) s1 g0 h1 (by omega) b1;rw [A3] at c1;have h2:=h1.run (PM.exp [40] (by decide));have l2:=PM.le (PM.exp [40] (by decide)) h1.wf;generalize (PM.exp [40] (by decide)).run s1=y at c1 h2 l2 ⊢;obtain ⟨x1,s2⟩:=y;simp only at c1 h2 l2 ⊢;have b2:(σ.AL i (psA L s2)).blk i=some (psA L s2):=(by rw [AO,if_pos rfl]))
 (have c2:=(Oq i L BE bD (QU i L BE)).pc (σ.AL i (psA L s2)) s2 g0 h2 (by omega) b2;rw [A3] at c2;have h3:=h2.run (closed Fs);have l3:=PM.le (closed Fs) h2.wf;generalize (closed Fs).run s2=y at c2 h3 l3 ⊢;obtain ⟨x2,s3⟩:=y;simp only at c2 h3 l3 ⊢;have b3:(σ.AL i (psA L s3)).blk i=some (psA L s3):=(by rw [AO,if_pos rfl]))
 (have c3:=(DJ i L BE [61] (by decide)) (σ.AL i (psA L s3)) s3 g0 h3 (by omega) b3;rw [A3] at c3;have h4:=h3.run (PM.exp [61] (by decide));have l4:=PM.le (PM.exp [61] (by decide)) h3.wf;generalize (PM.exp [61] (by decide)).run s3=y at c3 h4 l4 ⊢;obtain ⟨x3,s4⟩:=y;simp only at c3 h4 l4 ⊢;have b4:(σ.AL i (psA L s4)).blk i=some (psA L s4):=(by rw [AO,if_pos rfl]))
 (have c4:=(j2 i hN BE) (σ.AL i (psA L s4)) s4 g0 h4 (by omega) b4;rw [A3] at c4;have h5:=h4.run (CB BE);have l5:=PM.le (CB BE) h4.wf;generalize (CB BE).run s4=y at c4 h5 l5 ⊢;obtain ⟨x4,s5⟩:=y;simp only at c4 h5 l5 ⊢;have b5:(σ.AL i (psA L s5)).blk i=some (psA L s5):=(by rw [AO,if_pos rfl]);obtain ⟨o4,n4,u4,ns4,ks4,al4⟩:=x4;simp only [exA,Ex.A2,AD,AG] at c4 ⊢)
 (have c5:=(DJ i L BE [59] (by decide)) (σ.AL i (psA L s5)) s5 g0 h5 (by omega) b5;rw [A3] at c5;have h6:=h5.run (PM.exp [59] (by decide));have l6:=PM.le (PM.exp [59] (by decide)) h5.wf;generalize (PM.exp [59] (by decide)).run s5=y at c5 h6 l6 ⊢;obtain ⟨x5,s6⟩:=y;simp only at c5 h6 l6 ⊢;have b6:(σ.AL i (psA L s6)).blk i=some (psA L s6):=(by rw [AO,if_pos rfl]))
 simp only [feA,FE.enc,Ex.A2,AD,AG]
 (repeat' (first|refine Run.ct rfl ?_|((first|refine Run.reg mixed ?_|refine Run.AJ ?_|refine Run.A9 MR (AM.le_refl _) ?_|(refine AI.upd c0 ?_)|(refine AI.upd c1 ?_)|(refine AI.upd c2 ?_)|(refine AI.upd c3 ?_)|(refine AI.upd c4 ?_)|(refine AI.upd c5 ?_)|(refine AP rfl (fun h=>?_) (fun h=>?_)<;>try (cases h;done)))<;>try simp -implicitDefEqProofs only [go_sem])|(refine ⟨fun h=>?_,fun h=>?_⟩<;>first|(cases h;done)|try simp only [h])|fail))
theorem X4.of {σ τ:AM} {i e z:Nat} {rows:List (List DV)} {v:AV} (hg:X4 σ) (h:FC (σ.Dw i) e z rows v τ):X4 τ:=by
 obtain ⟨te,pe,he⟩:=hg
 exact ⟨te,pe,by rw [← h.le.gt];exact he⟩
set_option maxHeartbeats 2000000 in
theorem iM (i:Nat) {L:List Tok} (hN:NOk L):PC 28 [.gp i 0] i L BE N0 pgA:=by
 intro σ s0 g0 h0 l0 b0
 refine PA (by simp) ?_
 rw [BO]
 (repeat' (first|refine Run.ct rfl ?_|((first|refine Run.reg mixed ?_|refine Run.AJ ?_|(refine AP rfl (fun h=>?_) (fun h=>?_)<;>try (cases h;done)))<;>try simp -implicitDefEqProofs only [go_sem])|(refine ⟨fun h=>?_,fun h=>?_⟩<;>first|(cases h;done)|try simp only [h])|fail))
 refine Run.Bl ?_
 have hf0:=Fk
 have hl0:=h0.suf.length_le
 have hl1:=h0.len
 have hdel:(σ.Dw i).le σ:=⟨fun j c hj=>by
  have:j≠i:=fun e=>by rw [e] at hj;simp [AM.Dw] at hj
  simpa [AM.Dw,this] using hj,fun _ h=>h,rfl,fun _ _ h=>h⟩
 refine Run.Bm (α:=PSt×List DE×List FE×Nat×AV×AV×AM) (fun _=>put 0 (.gp i 0) (put 2 (.lp 2 0) (put 3 (.lp 3 0) U))) (fun y=>B6 2 [.AW,.AW] (B6 3 [y.2.2.2.2.1,y.2.2.2.2.2.1] Ab.E)) (fun y=>y.2.2.2.2.2.2)
  (fun y=>POk L y.1∧y.1.r.length≤y.2.2.2.1∧y.2.1.length+y.2.2.1.length+y.1.r.length≤17000∧FC (σ.Dw i) 61 3 (y.2.1.map DE.enc) y.2.2.2.2.1 y.2.2.2.2.2.2∧FC (σ.Dw i) 66 8 (y.2.2.1.map FE.enc) y.2.2.2.2.2.1 y.2.2.2.2.2.2∧X2 y.2.2.2.2.1 y.2.2.2.2.2.1∧y.2.2.2.2.2.2.blk i=some (psA L y.1)∧(MU y.2.2.2.1 y.2.1 y.2.2.1).run y.1=N0.run s0) (fun y=>y.1.r.length) ?_ (s0,[],[],BE,.AW,.AW,σ)
  ⟨h0,by simp only;omega,by simp;omega,FC.mono (FC.nil σ _ _) hdel,FC.mono (FC.nil σ _ _) hdel,fS _,b0,rfl⟩
 rintro ⟨s2,ds,fs,q,vd,vf,τ⟩ ⟨p1,p2,p3,p4,p5,p6,p7,p8⟩ ih
 simp only at p1 p2 p3 p4 p5 p6 p7 p8
 obtain ⟨q,rfl⟩:∃m,q=m+1:=⟨q - 1,by have:=Ar.2 p1.wf.ne;omega⟩
 rw [rO] at p8
 have hpk:=QW p1 τ p7
 have hgt:X4 τ:=g0.of p4
 have hn1:vd.BQ 3=false:=p4.BQ 3
 cases hk:s2.hd.kind==6 with
 |true=>
  rw [hk,if_pos rfl] at p8
  rw [← p8]
  have hne:(s2.hd.kind != 6)=false:=by unfold bne;rw [hk];rfl
  simp only [pgA,Pg.enc,AD,AG]
  have hle:=(LS.mk p4 p7:LS σ i L s2 _ _ _ _ _).le
  (repeat' (first|refine Run.ct rfl ?_|((first|refine Run.reg mixed ?_|refine Run.AJ ?_|(refine Run.A9 Il hle ?_)|refine AI.det (hpk) ?_|(refine AP rfl (fun h=>?_) (fun h=>?_)<;>try (cases h;done)))<;>try simp -implicitDefEqProofs only [hne,p4.BQ,p5.BQ,p4.Av,p5.Av,p4.cell,p5.cell,p4.plain,p5.plain,if_true,go_sem])|(refine ⟨fun h=>?_,fun h=>?_⟩<;>first|(cases h;done)|try simp only [h])|fail))
 |false=>
  have hne:(s2.hd.kind != 6)=true:=by unfold bne;rw [hk];rfl
  rw [hk,if_neg (by decide)] at p8
  cases t1:s2.hd.text==[100,97,116,97] with
  |true=>
   rw [t1,if_pos rfl] at p8
   have c1:=DH p1 _ τ p7 t1
   have h3:=p1.adv (t:=[100,97,116,97]) (by decide) t1
   have l3:=BP p1.wf
   generalize s2.adv=s3 at c1 h3 l3 p8
   have c2:=tA i L (τ.AL i (psA L s3)) s3 hgt h3 (by omega) (by rw [AO,if_pos rfl])
   rw [A3] at c2
   have h4:=h3.run Tp
   have l4:=PM.le Tp h3.wf
   generalize Tp.run s3=y at c2 h4 l4 p8
   obtain ⟨d,s4⟩:=y
   simp only at c2 h4 l4 p8
   obtain ⟨dn,dv,dc⟩:=d
   simp only [deA,DE.enc,AD,AG] at c2
   have q4:=p4.iR (NH σ i) (psA L s4)
   have q5:=p5.iR (NH σ i) (psA L s4)
   (repeat' (first|refine Run.ct rfl ?_|((first|refine Run.reg mixed ?_|refine Run.AJ ?_|(refine AI.upd c1 ?_)|(refine AI.upd c2 ?_)|refine AI.det (hpk) ?_|(refine AP rfl (fun h=>?_) (fun h=>?_)<;>try (cases h;done)))<;>try simp -implicitDefEqProofs only [hne,p4.BQ,p5.BQ,p4.cell,p5.cell,p4.cells,p5.cells,if_true,go_sem])|(refine ⟨fun h=>?_,fun h=>?_⟩<;>first|(cases h;done)|try simp only [h])|fail))
   (apply Oj.AAO (cx:=Bh) q4;rfl;simp;(simp only [AF,AE,AH];omega);decide;intro v2 τ2 ho hbk hkp)
   obtain ⟨r5,r6⟩:=hkp _ _ _ _ q5 p6
   simp -implicitDefEqProofs only [ho.BQ,ho.Av,ho.cells,ho.cell,p4.cell,p5.cell,if_true,go_sem]
   (repeat' (first|refine Run.ct rfl ?_|((first|refine Run.reg mixed ?_|refine Run.AJ ?_|(refine AP rfl (fun h=>?_) (fun h=>?_)<;>try (cases h;done)))<;>try simp -implicitDefEqProofs only [ho.BQ,ho.Av,ho.cells,ho.cell,go_sem])|(refine ⟨fun h=>?_,fun h=>?_⟩<;>first|(cases h;done)|try simp only [h])|fail))
   refine ih (s4,ds++[⟨dn,dv,dc⟩],fs,q,v2,vf,τ2) ⟨h4,by simp only;omega,by simp only [AA,AE,AH];omega,?_,r5,r6,by simp [hbk,AO],p8⟩ (by simp only;omega)
   simp only [Bn,AD,AG,DE.enc]
   exact ho
  |false=>
  have f1:=DG p1 _ τ p7 t1
  rw [t1,if_neg (by decide)] at p8
  cases t2:s2.hd.text==[102,117,110] with
  |true=>
   rw [t2,if_pos rfl] at p8
   have c1:=DH p1 _ τ p7 t2
   have h3:=p1.adv (t:=[102,117,110]) (by decide) t2
   have l3:=BP p1.wf
   generalize s2.adv=s3 at c1 h3 l3 p8
   have c2:=xV i hN (τ.AL i (psA L s3)) s3 hgt h3 (by omega) (by rw [AO,if_pos rfl])
   rw [A3] at c2
   have h4:=h3.run Z0
   have l4:=PM.le Z0 h3.wf
   generalize Z0.run s3=y at c2 h4 l4 p8
   obtain ⟨d,s4⟩:=y
   simp only at c2 h4 l4 p8
   obtain ⟨fn,fp,fb⟩:=d
   obtain ⟨o0,n0,u0,ns0,ks0,al0⟩:=fb
   simp only [feA,FE.enc,Ex.A2,AD,AG] at c2
   have q4:=p4.iR (NH σ i) (psA L s4)
   have q5:=p5.iR (NH σ i) (psA L s4)
   (repeat' (first|refine Run.ct rfl ?_|((first|refine Run.reg mixed ?_|refine Run.AJ ?_|(refine AI.upd c1 ?_)|(refine AI.upd c2 ?_)|refine AI.det (hpk) ?_|refine AI.det (f1) ?_|(refine AP rfl (fun h=>?_) (fun h=>?_)<;>try (cases h;done)))<;>try simp -implicitDefEqProofs only [hne,p4.BQ,p5.BQ,p4.cell,p5.cell,p4.cells,p5.cells,if_true,go_sem])|(refine ⟨fun h=>?_,fun h=>?_⟩<;>first|(cases h;done)|try simp only [h])|fail))
   (apply Oj.AAO (cx:=Bh) q5;rfl;simp;(simp only [AF,AE,AH];omega);decide;intro v2 τ2 ho hbk hkp)
   obtain ⟨r5,r6⟩:=hkp _ _ _ _ q4 p6.symm
   simp -implicitDefEqProofs only [ho.BQ,ho.Av,ho.cells,ho.cell,p4.cell,p5.cell,if_true,go_sem]
   (repeat' (first|refine Run.ct rfl ?_|((first|refine Run.reg mixed ?_|refine Run.AJ ?_|(refine AP rfl (fun h=>?_) (fun h=>?_)<;>try (cases h;done)))<;>try simp -implicitDefEqProofs only [ho.BQ,ho.Av,ho.cells,ho.cell,go_sem])|(refine ⟨fun h=>?_,fun h=>?_⟩<;>first|(cases h;done)|try simp only [h])|fail))
   refine ih (s4,ds,fs++[⟨fn,fp,.mk o0 n0 u0 ns0 ks0 al0⟩],q,vd,v2,τ2) ⟨h4,by simp only;omega,by simp only [AA,AE,AH];omega,r5,?_,r6.symm,by simp [hbk,AO],p8⟩ (by simp only;omega)
   simp only [Bn,AD,AG,FE.enc,Ex.A2]
   exact ho
  |false=>
  have f2:=DG p1 _ τ p7 t2
  rw [t2,if_neg (by decide)] at p8
  have c1:=VA p1 τ p7
  have h3:=p1.fail
  have l3:=dM p1.wf
  have h2':=y7 p1.wf hk
  have q4:=p4.iR (NH σ i) (psA L s2.fail)
  have q5:=p5.iR (NH σ i) (psA L s2.fail)
  (repeat' (first|refine Run.ct rfl ?_|((first|refine Run.reg mixed ?_|refine Run.AJ ?_|(refine AI.upd c1 ?_)|refine AI.det (hpk) ?_|refine AI.det (f1) ?_|refine AI.det (f2) ?_|(refine AP rfl (fun h=>?_) (fun h=>?_)<;>try (cases h;done)))<;>try simp -implicitDefEqProofs only [hne,p4.BQ,p5.BQ,p4.cell,p5.cell,p4.cells,p5.cells,if_true,go_sem])|(refine ⟨fun h=>?_,fun h=>?_⟩<;>first|(cases h;done)|try simp only [h])|fail))
  exact ih (s2.fail,ds,fs,q,vd,vf,_) ⟨h3,by simp only;omega,by simp only;omega,q4,q5,p6,by simp [AO],p8⟩ (by simp only;omega)
end Go.Ab
namespace Go.Ab
open Go.Proofs
def nE (r:Pg×Nat×Int):AV:= .tup [pgA r.1,.d (.int .i64 ((r.2.1:Nat):Int)),.d (.int .i64 r.2.2)]
theorem AAP (L:List Tok):[AV.d (.sl (L.map Tok.enc)),.d (.int .i64 0),.d (.bool false),.d (.int .i64 0)]=psA L ⟨L,false,0⟩:=by
 unfold psA Yx;simp
theorem tT {σ:AM} {j:Nat} (h:σ.blk j=none) (cs:List AV):σ.le (σ.AL j cs):=XV (AM.le_refl σ) h cs
theorem XL (src:Str) (σ:AM) (g0:X4 σ):AQ Tryz.prog 12 [.d (.str src)] σ (fun v σ'=>v=nE (Kd src)∧σ'=σ):=by
 refine YA (by simp) ?_
 rw [BO]
 have hsp:=Sd src σ
 by_cases he:(BR src).2.2=0
 · obtain ⟨hw,ho⟩:=fB he
   have hN:=nV he
   have hne:((BR src).2.2 != 0)=false:=by rw [he];rfl
   rw [UW he]
   have hprog:=fun (j:Nat) (hj:σ.blk j=none)=>iM j hN (σ.AL j (psA (BR src).1 ⟨(BR src).1,false,0⟩)) ⟨(BR src).1,false,0⟩ g0 ⟨hw,List.suffix_refl _,ho.1⟩ (by have:=Fk;have:=ho.1;simp only;omega) (by rw [AO,if_pos rfl])
   have hsm:=eU (p:=0) hw ho.1
   simp only [U5] at hsp
   generalize (BR src).1=L at hsp hw ho hN hprog hsm ⊢
   generalize (BR src).2.1=pos at hsp ⊢
   rw [he] at hsp
   generalize N0.run ⟨L,false,0⟩=y at hprog hsm ⊢
   obtain ⟨p,s1⟩:=y
   simp only at hprog hsm
   simp only [A3] at hprog
   obtain ⟨ds,fs⟩:=p
   simp only [pgA,Pg.enc,AD,AG] at hprog
   have h00:((0:Int) != 0)=false:=rfl
   (repeat' (first|refine Run.ct rfl ?_|((first|refine Run.reg mixed ?_|refine Run.AJ ?_|refine AI.det (hsp) ?_|(refine AP rfl (fun h=>?_) (fun h=>?_)<;>try (cases h;done)))<;>try simp -implicitDefEqProofs only [h00,go_sem])|(refine ⟨fun h=>?_,fun h=>?_⟩<;>first|(cases h;done)|try simp only [h])|fail))
   intro j hj
   have hle:=tT hj (psA L s1)
   have hb:(σ.AL j (psA L s1)).blk j=some (psA L s1):=by rw [AO,if_pos rfl]
   have hst:psA L s1=[.d (Yx L),.d (.int .i64 ((L.length - s1.r.length:Nat):Int)),.d (.bool s1.f),.d (.int .i64 ((s1.p:Nat):Int))]:=rfl
   rw [AAP]
   cases hf:s1.f with
   |true=>
    rw [hf] at hst
    have hfin:aZ (⟨ds,fs⟩,s1)=(⟨[],[]⟩,s1.p,2):=if_pos hf
    rw [hfin]
    simp only [nE,pgA,Pg.enc,AD,AG]
    (repeat' (first|refine Run.ct rfl ?_|((first|refine Run.reg mixed ?_|refine Run.AJ ?_|(refine AI.upd (hprog j hj) ?_)|(refine AP rfl (fun h=>?_) (fun h=>?_)<;>try (cases h;done)))<;>try simp -implicitDefEqProofs only [hst,hf,go_sem])|(refine ⟨fun h=>?_,fun h=>?_⟩<;>first|(cases h;done)|try simp only [h])|fail))
    rw [← hst]
    refine Run.SZ mixed ?_;simp -implicitDefEqProofs only [hst,hf,go_sem]
    rw [← hst]
    (repeat' (first|refine Run.ct rfl ?_|((first|refine Run.reg mixed ?_|refine Run.AJ ?_|(refine Run.A9 HG hle ?_)|(refine AP rfl (fun h=>?_) (fun h=>?_)<;>try (cases h;done)))<;>try simp -implicitDefEqProofs only [go_sem])|(refine ⟨fun h=>?_,fun h=>?_⟩<;>first|(cases h;done)|try simp only [h])|fail))
   |false=>
    rw [hf] at hst
    have hV:=Qr ⟨ds,fs⟩ (σ.AL j (psA L s1)) (fun d hd c hc t ht=>BC (hsm hf d hd c hc t ht) (by omega))
    simp only [pgA,Pg.enc,AD,AG] at hV
    have hfin:aZ (⟨ds,fs⟩,s1)=if Fu ⟨ds,fs⟩ then (⟨ds,fs⟩,0,0) else (⟨[],[]⟩,0,9):=if_neg (by rw [hf];decide)
    rw [hfin]
    cases hv:Fu ⟨ds,fs⟩ with
    |true=>
     rw [hv] at hV
     simp only [if_true,nE,pgA,Pg.enc,AD,AG]
     (repeat' (first|refine Run.ct rfl ?_|((first|refine Run.reg mixed ?_|refine Run.AJ ?_|(refine AI.upd (hprog j hj) ?_)|(refine AP rfl (fun h=>?_) (fun h=>?_)<;>try (cases h;done)))<;>try simp -implicitDefEqProofs only [hst,hf,go_sem])|(refine ⟨fun h=>?_,fun h=>?_⟩<;>first|(cases h;done)|try simp only [h])|fail))
     rw [← hst]
     (repeat' (first|refine Run.ct rfl ?_|((first|refine Run.reg mixed ?_|refine Run.AJ ?_|(refine Run.A9 HG hle ?_)|refine AI.det (hV) ?_|(refine AP rfl (fun h=>?_) (fun h=>?_)<;>try (cases h;done)))<;>try simp -implicitDefEqProofs only [hf,go_sem])|(refine ⟨fun h=>?_,fun h=>?_⟩<;>first|(cases h;done)|try simp only [h])|fail))
     rfl
    |false=>
     rw [hv] at hV
     simp only [if_false,A1,nE,pgA,Pg.enc,AD,AG]
     (repeat' (first|refine Run.ct rfl ?_|((first|refine Run.reg mixed ?_|refine Run.AJ ?_|(refine AI.upd (hprog j hj) ?_)|(refine AP rfl (fun h=>?_) (fun h=>?_)<;>try (cases h;done)))<;>try simp -implicitDefEqProofs only [hst,hf,go_sem])|(refine ⟨fun h=>?_,fun h=>?_⟩<;>first|(cases h;done)|try simp only [h])|fail))
     rw [← hst]
     (repeat' (first|refine Run.ct rfl ?_|((first|refine Run.reg mixed ?_|refine Run.AJ ?_|(refine Run.A9 HG hle ?_)|refine AI.det (hV) ?_|(refine AP rfl (fun h=>?_) (fun h=>?_)<;>try (cases h;done)))<;>try simp -implicitDefEqProofs only [hf,go_sem])|(refine ⟨fun h=>?_,fun h=>?_⟩<;>first|(cases h;done)|try simp only [h])|fail))
     rfl
 · have hne:((BR src).2.2 != 0)=true:=by simpa using he
   have hp:Kd src=(⟨[],[]⟩,(BR src).2.1,(BR src).2.2):=if_pos he
   rw [hp]
   simp only [U5] at hsp
   simp only [nE,pgA,Pg.enc,AD,AG]
   (repeat' (first|refine Run.ct rfl ?_|((first|refine Run.reg mixed ?_|refine Run.AJ ?_|refine Run.A9 HG (AM.le_refl _) ?_|refine AI.det (hsp) ?_|(refine AP rfl (fun h=>?_) (fun h=>?_)<;>try (cases h;done)))<;>try simp -implicitDefEqProofs only [hne,go_sem])|(refine ⟨fun h=>?_,fun h=>?_⟩<;>first|(cases h;done)|try simp only [h])|fail))
end Go.Ab
namespace Go.Ab
open Go.Proofs
def Ze:Str:=[102,117,110,32,102,40,120,41,61,105,102,32,120,60,61,48,32,116,104,101,110,40,41,32,101,108,115,101,32,102,40,120,45,49,41,59]
def oW:Str:=[102,117,110,32,102,40,120,41,32,61,32,105,102,32,120,32,60,61,32,48,32,116,104,101,110,32,40,41,32,101,108,115,101,32,102,40,120,32,45,32,49,41,59,10]
def nmE (s:Str):Ex:= .mk 4 s 0 [] [] []
def awE:Ex:= .mk 9 [] 0 [] [.mk 13 [] 7 [] [nmE [120],.mk 3 [] 0 [] [] []] [],.mk 1 [] 0 [] [] [],.mk 12 [] 0 [] [nmE [102],.mk 13 [] 2 [] [nmE [120],.mk 3 [] 1 [] [] []] []] []] []
def awQ:Pg:=⟨[],[⟨[102],[[120]],awE⟩]⟩
theorem j5:Lib.itoa 0=[48]∧Lib.itoa 1=[49]:=by
 constructor<;>simp [Lib.itoa,Lib.decDigits]
theorem aS:ZP awQ=oW:=by
 have h0:=j5.1
 have h1:=j5.2
 have e1:BA (.mk 3 [] 0 [] [] [])=[48]:=by rw [← h0];rfl
 have e2:BA (.mk 3 [] 1 [] [] [])=[49]:=by rw [← h1];rfl
 have e3:BA (.mk 13 [] 7 [] [nmE [120],.mk 3 [] 0 [] [] []] [])=[120,32,60,61,32]++BA (.mk 3 [] 0 [] [] []):=rfl
 have e4:BA (.mk 13 [] 2 [] [nmE [120],.mk 3 [] 1 [] [] []] [])=[120,32,45,32]++BA (.mk 3 [] 1 [] [] []):=rfl
 have e6:BA (.mk 12 [] 0 [] [nmE [102],.mk 13 [] 2 [] [nmE [120],.mk 3 [] 1 [] [] []] []] [])=[102,40]++(Lib.join [BA (.mk 13 [] 2 [] [nmE [120],.mk 3 [] 1 [] [] []] [])] [44,32]++[41]):=rfl
 have e7:BA awE=[105,102,32]++(BA (.mk 13 [] 7 [] [nmE [120],.mk 3 [] 0 [] [] []] [])++([32,116,104,101,110,32]++([40,41]++([32,101,108,115,101,32]++BA (.mk 12 [] 0 [] [nmE [102],.mk 13 [] 2 [] [nmE [120],.mk 3 [] 1 [] [] []] []] []))))):=rfl
 have e8:ZP awQ=(([102,117,110,32]++([102]++(Iz [[120]]++([32,61,32]++(BA awE++[59,10])))))++[]):=rfl
 have e9:Iz [[120]]=[40,120,41]:=by decide
 rw [e8,e7,e6,Lib.join_one,e3,e4,e1,e2,e9];rfl
theorem Zd:Fu awQ=true:=by decide+kernel
theorem lE:(BR Ze).2.2=0∧(BR oW).2.2=0∧strip (BR Ze).1=strip (BR oW).1:=by decide+kernel
theorem lD:(Kd Ze).1=awQ∧(Kd Ze).2.2=0:=by
 obtain ⟨h1,h2,h3⟩:=lE
 have hb:=iE Zd (by rw [aS];decide)
 rw [aS] at hb
 have hp:=eP h1 h2 h3
 rw [hb] at hp
 exact hp
theorem YK (σ:AM) (hg:X4 σ) (hp:σ.gt SX=some UZ):AQ Tryz.prog 15 [] σ (fun v σ'=>v= .d (.bool true)∧σ'=σ):=by
 have hpa:=XL Ze σ hg
 have hfm:=WT awQ σ hp (fun d hd=>by cases hd)
 rw [Zd,if_pos rfl,aS] at hfm
 obtain ⟨h1,h2⟩:=lD
 generalize Kd Ze=r at hpa h1 h2
 obtain ⟨q,at',code⟩:=r
 simp only at h1 h2
 subst h1 h2
 simp only [nE,pgA,Pg.enc,AD,AG] at hpa hfm
 refine ZQ (by simp) ?_
 rw [show Ao []=U from by funext s;simp [Ao,U]]
 (repeat' (first|refine Run.ct rfl ?_|((first|refine Run.reg mixed ?_|refine Run.AJ ?_|refine Run.A9 Ti (AM.le_refl _) ?_|refine AI.det (hpa) ?_|refine AI.det (hfm) ?_|(refine AP rfl (fun h=>?_) (fun h=>?_)<;>try (cases h;done)))<;>try simp -implicitDefEqProofs only [A7,go_sem])|(refine ⟨fun h=>?_,fun h=>?_⟩<;>first|(cases h;done)|try simp only [h])|fail))
 exact ⟨rfl,rfl⟩
end Go.Ab
