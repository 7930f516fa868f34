/- Several owned slices side by side. Valid programs, as the reference looks at them. The parser: declarations, programs, Parse. Parse of the program. The sanity check of the laws of syntax. The guards on programs: Names, written, expr. The guards on programs: Prog. The law on sizes: SyntaxLimits, over abstract values. Conditions: none. -/
import Derived.Test.YtifplkldbbcldaaGreatDoorXPi
set_option linter.unusedSimpArgs false
set_option linter.unusedVariables false
set_option maxRecDepth 4000
set_option maxHeartbeats 8000000
open Nat renaming mul_le_mul→NL,le_trans→At
open Option.some renaming injEq→AP
open Except.ok renaming injEq→GH
open Prod.mk renaming injEq→BW
open List renaming takeWhile_cons→Ev,mem_append→BP,mem_singleton→Fa,length_drop→Ah,map_cons→AE,map_nil→AH,length_pos_iff→Ap,length_map→AI,length_cons→AD,length_nil→AF,length_append→AA,map_append→Bc
open Bool renaming false_eq_true→AY
open Int renaming reduceBEq→A5
namespace Go.Ab
def dA:AV→Option Nat
 | .own t _ _ _=>some t
 |_=>none
def VW (v w:AV):Prop:=∀t,dA v=some t→dA w≠some t
theorem VW.symm {v w:AV} (h:VW v w):VW w v:=fun t h1 h2=>h t h2 h1
theorem aK (w:AV):VW .AU w:=fun t h=>by cases h
theorem E2.Vw {σ0 σ σ':AN} {e s:Nat} {rows:List (List DV)} {w:AV} (h:E2 σ0 e s rows w σ) (hle:σ0.le σ') (ht:∀t,dA w=some t→σ.tok t=true→σ'.tok t=true):E2 σ0 e s rows w σ':=by
 obtain ⟨⟨σ1,ha,hl⟩,_,h1,h2,h3,h4,h5,h6,h7⟩:=h
 refine ⟨?_,hle,h1,h2,h3,h4,h5,h6,h7⟩
 unfold OG at ha ⊢
 split at ha
 · cases ha;exact ⟨σ',rfl,hle⟩
 · rename_i t e' s' rows'
   split at ha
   · rename_i hc
     cases ha
     obtain ⟨q1,q2,q3⟩:=hc
     refine ⟨σ'.E7 t,by rw [if_pos ⟨q1,q2,ht t rfl q3⟩],⟨hle.blk,fun t' h'=>?_,hle.gt,hle.bt⟩⟩
     have hne:t'≠t:=fun e=>by
      have:=hl.tok t' h'
      simp [AN.E7,e] at this
     simp [AN.E7,hne,hle.tok t' h']
   · cases ha
 · cases ha
theorem NN.vP {cx:Cx} {K:Fm→Lm→AN→Prop} {F:Fm} {L:Lm} {σ σ0:AN} {d:Option Nat} {e size bytes:Nat} {s x:AV} {rows srows:List (List DV)} (ho:E2 σ0 e size rows s σ) (h2:x.rows=some srows)
 (h3:∀r∈srows,r.length=size) (h4:rows.length+srows.length≤1000000000) (hb:bytes≤10000)
 (h:∀v σ',E2 σ0 e size (rows++srows) v σ'→(∀i,σ'.blk i=σ.blk i)→(∀e2 s2 rows2 w,E2 σ0 e2 s2 rows2 w σ→VW s w→E2 σ0 e2 s2 rows2 w σ'∧VW v w)→K (An d v F) L σ'):NN e size bytes s x d K F L σ:=by
 obtain ⟨σ1,ha,hl⟩:=ho.app
 have hblk:∀i,σ1.blk i=σ.blk i:=fun i=>by
  unfold OG at ha
  split at ha
  · cases ha;rfl
  · split at ha
    · cases ha;rfl
    · cases ha
  · cases ha
 have htok:∀t,dA s≠some t→σ.tok t=true→σ1.tok t=true:=fun t hne ht=>by
  unfold OG at ha
  split at ha
  · cases ha;exact ht
  · rename_i ts e' s' rows'
    split at ha
    · cases ha
      have:t≠ts:=fun e=>hne (by rw [e];rfl)
      simp [AN.E7,this,ht]
    · cases ha
  · cases ha
 refine NN.mk ha h2 h3 (by simp only [maxLen];omega) ?_ (fun t ht=>h _ _ (E2.own hl ho.le ht) (fun i=>by rw [F2];exact hblk i) (fun e2 s2 rows2 w hw hap=>?_))
 · calc (rows.length+srows.length) * bytes≤1000000000 * 10000:=NL h4 hb
    _≤140737488355328:=by decide
 · have hwt:∀t',dA w=some t'→σ.tok t'=true:=fun t' h'=>by
    obtain ⟨_,hw1,_⟩:=hw.app
    cases w<;>simp only [dA] at h'<;>try cases h'
    simp only [OG] at hw1
    split at hw1
    · rename_i hc;exact hc.2.2
    · cases hw1
   have hown:=E2.own (e:=e) (s:=size) (rows:=rows++srows) hl ho.le ht
   refine ⟨hw.Vw hown.le (fun t' h1 h2=>?_),fun t' h1 h3=>?_⟩
   · have:=htok t' (fun e=>hap t' e h1) h2
     simp [AN.DF,this]
   · simp only [dA,AP] at h1
     subst h1
     rw [hwt _ h3] at ht;cases ht
end Go.Ab
namespace Go.Ab
open Go.Proofs
end Go.Ab
namespace Go.Ab
open Go.Proofs
theorem mU {s:Str} {k:Int} {t:Str} (h:Ee s= .ok (k,t)) (hl:s.length≤20000) (hk:k=3):Ze t:=by
 match s,h with
 |b::r,h=>
  simp only [Ee] at h
  split at h
  · split at h
    · cases h
    · split at h
      · cases h;omega
      · split at h<;>(cases h;omega)
  · split at h
    · rename_i hd
      split at h
      · cases h
      · split at h
        · rename_i hv
          simp only [GH,BW] at h
          obtain ⟨_,rfl⟩:=h
          refine .inr ⟨?_,jV,hv,At (HQ _ _) hl⟩
          rw [Ev,if_pos (show Ej Hv b=true from hd)];simp
        · cases h
    · split at h
      · cases h
      · cases h;omega
theorem VS:∀(n:Nat) (rest:Str) (i:Nat) (acc:List Tok),rest.length≤20000→NOk acc→(EB n rest i acc).2.2=0→NOk (EB n rest i acc).1
 |0,rest,i,acc,_,_,_=>fun t ht=>by cases ht
 |n+1,[],i,acc,_,ha,_=>fun t ht hk=>by
  rcases BP.1 ht with ht|ht
  · exact ha t ht hk
  · rw [Fa] at ht;subst ht;cases hk
 |n+1,b::r,i,acc,hl,ha,h=>by
  rw [EB] at h ⊢
  split at h
  · rename_i hb
    rw [if_pos hb]
    exact VS n r (i+1) acc (by simp at hl;omega) ha h
  · rename_i hb
    rw [if_neg hb]
    split at h
    · rename_i hc
      rw [if_pos hc]
      exact VS n _ _ acc (by rw [Ah];omega) ha h
    · rename_i hc
      rw [if_neg hc]
      cases hs:Ee (b::r) with
      |error e=>
       rw [hs] at h
       simp only at h
       rcases Nt hs with rfl|rfl<;>cases h
      |ok x=>
       obtain ⟨k,t⟩:=x
       rw [hs] at h
       simp only at h ⊢
       refine VS n _ _ _ (by rw [Ah];omega) (fun u hu hk=>?_) h
       rcases BP.1 hu with hu|hu
       · exact ha u hu hk
       · rw [Fa] at hu;subst hu;exact mU hs hl hk
theorem iX {s:Str} (h:(BF s).2.2=0):NOk (BF s).1:=by
 unfold BF at h ⊢
 split at h
 · cases h
 · rename_i hl
   rw [if_neg hl]
   exact VS _ s 0 [] (by omega) (fun t ht=>by cases ht) h
theorem sF (i:Nat) (L:List Tok):PC 129 [.gp i 0] i L BB Zg ceA:=by
 intro σ s0 g0 h0 l0 b0
 refine R2 (by simp) ?_
 rw [BM]
 simp only [Zg,tyR,run_bind,run_pure,ceA,CE.enc,AE,AH]
 (have c0:=(Qu i L BB) σ s0 g0 h0 (by omega) b0;have h1:=h0.run (Eo);have l1:=PM.le (Eo) h0.wf;generalize (Eo).run s0=y at c0 h1 l1 ⊢;obtain ⟨x0,s1⟩:=y;simp only at c0 h1 l1 ⊢;have b1:(σ.AL i (psA L s1)).blk i=some (psA L s1):=(by rw [AO,if_pos rfl]))
 (have c1:=((I7 i L BB Vm (nG i L BB)).pc.mono (Nat.le_succ BB)) (σ.AL i (psA L s1)) s1 g0 h1 (by omega) b1;rw [A0] at c1;have h2:=h1.run (H9 (FT BB));have l2:=PM.le (H9 (FT BB)) h1.wf;generalize (H9 (FT BB)).run s1=y at c1 h2 l2 ⊢;obtain ⟨x1,s2⟩:=y;simp only at c1 h2 l2 ⊢;have b2:(σ.AL i (psA L s2)).blk i=some (psA L s2):=(by rw [AO,if_pos rfl]))
 (repeat' (first|refine Run.ct rfl ?_|((first|refine Run.reg mixed ?_|refine Run.AM ?_|refine Run.Af LB (AN.le_refl _) ?_|(refine AG.upd c0 ?_)|(refine AG.upd c1 ?_)|(refine AQ rfl (fun h=>?_) (fun h=>?_)<;>try (cases h;done)))<;>try simp -implicitDefEqProofs only [go_sem])|(refine ⟨fun h=>?_,fun h=>?_⟩<;>first|(cases h;done)|try simp only [h])|fail))
theorem oB (i:Nat) (L:List Tok):PC 66 [.gp i 0] i L BB SG deA:=by
 intro σ s0 g0 h0 l0 b0
 refine QL (by simp) ?_
 rw [BM]
 simp only [SG,run_bind,run_pure,deA,DE.enc,AE,AH]
 (have c0:=(Qu i L BB) σ s0 g0 h0 (by omega) b0;have h1:=h0.run (Eo);have l1:=PM.le (Eo) h0.wf;generalize (Eo).run s0=y at c0 h1 l1 ⊢;obtain ⟨x0,s1⟩:=y;simp only at c0 h1 l1 ⊢;have b1:(σ.AL i (psA L s1)).blk i=some (psA L s1):=(by rw [AO,if_pos rfl]))
 (have c1:=((Nb i L BB YV (O9 i L BB)).pc.mono (Nat.le_succ BB)) (σ.AL i (psA L s1)) s1 g0 h1 (by omega) b1;rw [A0] at c1;have h2:=h1.run (H9 FK);have l2:=PM.le (H9 FK) h1.wf;generalize (H9 FK).run s1=y at c1 h2 l2 ⊢;obtain ⟨x1,s2⟩:=y;simp only at c1 h2 l2 ⊢;have b2:(σ.AL i (psA L s2)).blk i=some (psA L s2):=(by rw [AO,if_pos rfl]))
 (have c2:=(Ck i L BB [61] (by decide)) (σ.AL i (psA L s2)) s2 g0 h2 (by omega) b2;rw [A0] at c2;have h3:=h2.run (PM.exp [61] (by decide));have l3:=PM.le (PM.exp [61] (by decide)) h2.wf;generalize (PM.exp [61] (by decide)).run s2=y at c2 h3 l3 ⊢;obtain ⟨x2,s3⟩:=y;simp only at c2 h3 l3 ⊢;have b3:(σ.AL i (psA L s3)).blk i=some (psA L s3):=(by rw [AO,if_pos rfl]))
 (have c3:=(QZ i L BB sO (sF i L) [124] (by decide)).pc (σ.AL i (psA L s3)) s3 g0 h3 (by omega) b3;rw [A0] at c3;have h4:=h3.run (items Zg [124] (by decide));have l4:=PM.le (items Zg [124] (by decide)) h3.wf;generalize (items Zg [124] (by decide)).run s3=y at c3 h4 l4 ⊢;obtain ⟨x3,s4⟩:=y;simp only at c3 h4 l4 ⊢;have b4:(σ.AL i (psA L s4)).blk i=some (psA L s4):=(by rw [AO,if_pos rfl]))
 (have c4:=(Ck i L BB [59] (by decide)) (σ.AL i (psA L s4)) s4 g0 h4 (by omega) b4;rw [A0] at c4;have h5:=h4.run (PM.exp [59] (by decide));have l5:=PM.le (PM.exp [59] (by decide)) h4.wf;generalize (PM.exp [59] (by decide)).run s4=y at c4 h5 l5 ⊢;obtain ⟨x4,s5⟩:=y;simp only at c4 h5 l5 ⊢;have b5:(σ.AL i (psA L s5)).blk i=some (psA L s5):=(by rw [AO,if_pos rfl]))
 (repeat' (first|refine Run.ct rfl ?_|((first|refine Run.reg mixed ?_|refine Run.AM ?_|refine Run.Af KB (AN.le_refl _) ?_|(refine AG.upd c0 ?_)|(refine AG.upd c1 ?_)|(refine AG.upd c2 ?_)|(refine AG.upd c3 ?_)|(refine AG.upd c4 ?_)|(refine AQ rfl (fun h=>?_) (fun h=>?_)<;>try (cases h;done)))<;>try simp -implicitDefEqProofs only [go_sem])|(refine ⟨fun h=>?_,fun h=>?_⟩<;>first|(cases h;done)|try simp only [h])|fail))
theorem sL (i:Nat) {L:List Tok} (hN:NOk L):PC 67 [.gp i 0] i L BB XV feA:=by
 intro σ s0 g0 h0 l0 b0
 refine R3 (by simp) ?_
 rw [BM]
 simp only [XV,exR,run_bind,run_pure]
 (have c0:=(O9 i L BB) σ s0 g0 h0 (by omega) b0;have h1:=h0.run (FK);have l1:=PM.le (FK) h0.wf;generalize (FK).run s0=y at c0 h1 l1 ⊢;obtain ⟨x0,s1⟩:=y;simp only at c0 h1 l1 ⊢;have b1:(σ.AL i (psA L s1)).blk i=some (psA L s1):=(by rw [AO,if_pos rfl]))
 (have c1:=(Ck i L BB [40] (by decide)) (σ.AL i (psA L s1)) s1 g0 h1 (by omega) b1;rw [A0] at c1;have h2:=h1.run (PM.exp [40] (by decide));have l2:=PM.le (PM.exp [40] (by decide)) h1.wf;generalize (PM.exp [40] (by decide)).run s1=y at c1 h2 l2 ⊢;obtain ⟨x1,s2⟩:=y;simp only at c1 h2 l2 ⊢;have b2:(σ.AL i (psA L s2)).blk i=some (psA L s2):=(by rw [AO,if_pos rfl]))
 (have c2:=(NT i L BB YV (O9 i L BB)).pc (σ.AL i (psA L s2)) s2 g0 h2 (by omega) b2;rw [A0] at c2;have h3:=h2.run (closed FK);have l3:=PM.le (closed FK) h2.wf;generalize (closed FK).run s2=y at c2 h3 l3 ⊢;obtain ⟨x2,s3⟩:=y;simp only at c2 h3 l3 ⊢;have b3:(σ.AL i (psA L s3)).blk i=some (psA L s3):=(by rw [AO,if_pos rfl]))
 (have c3:=(Ck i L BB [61] (by decide)) (σ.AL i (psA L s3)) s3 g0 h3 (by omega) b3;rw [A0] at c3;have h4:=h3.run (PM.exp [61] (by decide));have l4:=PM.le (PM.exp [61] (by decide)) h3.wf;generalize (PM.exp [61] (by decide)).run s3=y at c3 h4 l4 ⊢;obtain ⟨x3,s4⟩:=y;simp only at c3 h4 l4 ⊢;have b4:(σ.AL i (psA L s4)).blk i=some (psA L s4):=(by rw [AO,if_pos rfl]))
 (have c4:=(dZ i hN BB) (σ.AL i (psA L s4)) s4 g0 h4 (by omega) b4;rw [A0] at c4;have h5:=h4.run (Bq BB);have l5:=PM.le (Bq BB) h4.wf;generalize (Bq BB).run s4=y at c4 h5 l5 ⊢;obtain ⟨x4,s5⟩:=y;simp only at c4 h5 l5 ⊢;have b5:(σ.AL i (psA L s5)).blk i=some (psA L s5):=(by rw [AO,if_pos rfl]);obtain ⟨o4,n4,u4,ns4,ks4,al4⟩:=x4;simp only [exA,Ex.A3,AE,AH] at c4 ⊢)
 (have c5:=(Ck i L BB [59] (by decide)) (σ.AL i (psA L s5)) s5 g0 h5 (by omega) b5;rw [A0] at c5;have h6:=h5.run (PM.exp [59] (by decide));have l6:=PM.le (PM.exp [59] (by decide)) h5.wf;generalize (PM.exp [59] (by decide)).run s5=y at c5 h6 l6 ⊢;obtain ⟨x5,s6⟩:=y;simp only at c5 h6 l6 ⊢;have b6:(σ.AL i (psA L s6)).blk i=some (psA L s6):=(by rw [AO,if_pos rfl]))
 simp only [feA,FE.enc,Ex.A3,AE,AH]
 (repeat' (first|refine Run.ct rfl ?_|((first|refine Run.reg mixed ?_|refine Run.AM ?_|refine Run.Af LC (AN.le_refl _) ?_|(refine AG.upd c0 ?_)|(refine AG.upd c1 ?_)|(refine AG.upd c2 ?_)|(refine AG.upd c3 ?_)|(refine AG.upd c4 ?_)|(refine AG.upd c5 ?_)|(refine AQ rfl (fun h=>?_) (fun h=>?_)<;>try (cases h;done)))<;>try simp -implicitDefEqProofs only [go_sem])|(refine ⟨fun h=>?_,fun h=>?_⟩<;>first|(cases h;done)|try simp only [h])|fail))
theorem VZ.of {σ τ:AN} {i e z:Nat} {rows:List (List DV)} {v:AV} (hg:VZ σ) (h:E2 (σ.D5 i) e z rows v τ):VZ τ:=by
 obtain ⟨te,pe,he⟩:=hg
 exact ⟨te,pe,by rw [← h.le.gt];exact he⟩
set_option maxHeartbeats 2000000 in
theorem cK (i:Nat) {L:List Tok} (hN:NOk L):PC 28 [.gp i 0] i L BB KO pgA:=by
 intro σ s0 g0 h0 l0 b0
 refine N1 (by simp) ?_
 rw [BM]
 (repeat' (first|refine Run.ct rfl ?_|((first|refine Run.reg mixed ?_|refine Run.AM ?_|(refine AQ rfl (fun h=>?_) (fun h=>?_)<;>try (cases h;done)))<;>try simp -implicitDefEqProofs only [go_sem])|(refine ⟨fun h=>?_,fun h=>?_⟩<;>first|(cases h;done)|try simp only [h])|fail))
 refine Run.Cm ?_
 have hf0:=FC
 have hl0:=h0.suf.length_le
 have hl1:=h0.len
 have hdel:(σ.D5 i).le σ:=⟨fun j c hj=>by
  have:j≠i:=fun e=>by rw [e] at hj;simp [AN.D5] at hj
  simpa [AN.D5,this] using hj,fun _ h=>h,rfl,fun _ _ h=>h⟩
 refine Run.Cn (α:=PSt×List DE×List FE×Nat×AV×AV×AN) (fun _=>put 0 (.gp i 0) (put 2 (.lp 2 0) (put 3 (.lp 3 0) U))) (fun y=>Bd 2 [.AU,.AU] (Bd 3 [y.2.2.2.2.1,y.2.2.2.2.2.1] Ab.E)) (fun y=>y.2.2.2.2.2.2)
  (fun y=>POk L y.1∧y.1.r.length≤y.2.2.2.1∧y.2.1.length+y.2.2.1.length+y.1.r.length≤17000∧E2 (σ.D5 i) 61 3 (y.2.1.map DE.enc) y.2.2.2.2.1 y.2.2.2.2.2.2∧E2 (σ.D5 i) 66 8 (y.2.2.1.map FE.enc) y.2.2.2.2.2.1 y.2.2.2.2.2.2∧VW y.2.2.2.2.1 y.2.2.2.2.2.1∧y.2.2.2.2.2.2.blk i=some (psA L y.1)∧(LG y.2.2.2.1 y.2.1 y.2.2.1).run y.1=KO.run s0) (fun y=>y.1.r.length) ?_ (s0,[],[],BB,.AU,.AU,σ)
  ⟨h0,by simp only;omega,by simp;omega,E2.mono (E2.nil σ _ _) hdel,E2.mono (E2.nil σ _ _) hdel,aK _,b0,rfl⟩
 rintro ⟨s2,ds,fs,q,vd,vf,τ⟩ ⟨p1,p2,p3,p4,p5,p6,p7,p8⟩ ih
 simp only at p1 p2 p3 p4 p5 p6 p7 p8
 obtain ⟨q,rfl⟩:∃m,q=m+1:=⟨q - 1,by have:=Ap.2 p1.wf.ne;omega⟩
 rw [mN] at p8
 have hpk:=Oc p1 τ p7
 have hgt:VZ τ:=g0.of p4
 have hn1:vd.BO 3=false:=p4.BO 3
 cases hk:s2.hd.kind==6 with
 |true=>
  rw [hk,if_pos rfl] at p8
  rw [← p8]
  have hne:(s2.hd.kind != 6)=false:=by unfold bne;rw [hk];rfl
  simp only [pgA,Pg.enc,AE,AH]
  have hle:=(LS.mk p4 p7:LS σ i L s2 _ _ _ _ _).le
  (repeat' (first|refine Run.ct rfl ?_|((first|refine Run.reg mixed ?_|refine Run.AM ?_|(refine Run.Af Hl hle ?_)|refine AG.det (hpk) ?_|(refine AQ rfl (fun h=>?_) (fun h=>?_)<;>try (cases h;done)))<;>try simp -implicitDefEqProofs only [hne,p4.BO,p5.BO,p4.As,p5.As,p4.cell,p5.cell,p4.plain,p5.plain,if_true,go_sem])|(refine ⟨fun h=>?_,fun h=>?_⟩<;>first|(cases h;done)|try simp only [h])|fail))
 |false=>
  have hne:(s2.hd.kind != 6)=true:=by unfold bne;rw [hk];rfl
  rw [hk,if_neg (by decide)] at p8
  cases t1:s2.hd.text==[100,97,116,97] with
  |true=>
   rw [t1,if_pos rfl] at p8
   have c1:=Cj p1 _ τ p7 t1
   have h3:=p1.adv (t:=[100,97,116,97]) (by decide) t1
   have l3:=BN p1.wf
   generalize s2.adv=s3 at c1 h3 l3 p8
   have c2:=oB i L (τ.AL i (psA L s3)) s3 hgt h3 (by omega) (by rw [AO,if_pos rfl])
   rw [A0] at c2
   have h4:=h3.run SG
   have l4:=PM.le SG h3.wf
   generalize SG.run s3=y at c2 h4 l4 p8
   obtain ⟨d,s4⟩:=y
   simp only at c2 h4 l4 p8
   obtain ⟨dn,dv,dc⟩:=d
   simp only [deA,DE.enc,AE,AH] at c2
   have q4:=p4.cP (Lp σ i) (psA L s4)
   have q5:=p5.cP (Lp σ i) (psA L s4)
   (repeat' (first|refine Run.ct rfl ?_|((first|refine Run.reg mixed ?_|refine Run.AM ?_|(refine AG.upd c1 ?_)|(refine AG.upd c2 ?_)|refine AG.det (hpk) ?_|(refine AQ rfl (fun h=>?_) (fun h=>?_)<;>try (cases h;done)))<;>try simp -implicitDefEqProofs only [hne,p4.BO,p5.BO,p4.cell,p5.cell,p4.cells,p5.cells,if_true,go_sem])|(refine ⟨fun h=>?_,fun h=>?_⟩<;>first|(cases h;done)|try simp only [h])|fail))
   (apply NN.vP (cx:=B8) q4;rfl;simp;(simp only [AI,AD,AF];omega);decide;intro v2 τ2 ho hbk hkp)
   obtain ⟨r5,r6⟩:=hkp _ _ _ _ q5 p6
   simp -implicitDefEqProofs only [ho.BO,ho.As,ho.cells,ho.cell,p4.cell,p5.cell,if_true,go_sem]
   (repeat' (first|refine Run.ct rfl ?_|((first|refine Run.reg mixed ?_|refine Run.AM ?_|(refine AQ rfl (fun h=>?_) (fun h=>?_)<;>try (cases h;done)))<;>try simp -implicitDefEqProofs only [ho.BO,ho.As,ho.cells,ho.cell,go_sem])|(refine ⟨fun h=>?_,fun h=>?_⟩<;>first|(cases h;done)|try simp only [h])|fail))
   refine ih (s4,ds++[⟨dn,dv,dc⟩],fs,q,v2,vf,τ2) ⟨h4,by simp only;omega,by simp only [AA,AD,AF];omega,?_,r5,r6,by simp [hbk,AO],p8⟩ (by simp only;omega)
   simp only [Bc,AE,AH,DE.enc]
   exact ho
  |false=>
  have f1:=Ci p1 _ τ p7 t1
  rw [t1,if_neg (by decide)] at p8
  cases t2:s2.hd.text==[102,117,110] with
  |true=>
   rw [t2,if_pos rfl] at p8
   have c1:=Cj p1 _ τ p7 t2
   have h3:=p1.adv (t:=[102,117,110]) (by decide) t2
   have l3:=BN p1.wf
   generalize s2.adv=s3 at c1 h3 l3 p8
   have c2:=sL i hN (τ.AL i (psA L s3)) s3 hgt h3 (by omega) (by rw [AO,if_pos rfl])
   rw [A0] at c2
   have h4:=h3.run XV
   have l4:=PM.le XV h3.wf
   generalize XV.run s3=y at c2 h4 l4 p8
   obtain ⟨d,s4⟩:=y
   simp only at c2 h4 l4 p8
   obtain ⟨fn,fp,fb⟩:=d
   obtain ⟨o0,n0,u0,ns0,ks0,al0⟩:=fb
   simp only [feA,FE.enc,Ex.A3,AE,AH] at c2
   have q4:=p4.cP (Lp σ i) (psA L s4)
   have q5:=p5.cP (Lp σ i) (psA L s4)
   (repeat' (first|refine Run.ct rfl ?_|((first|refine Run.reg mixed ?_|refine Run.AM ?_|(refine AG.upd c1 ?_)|(refine AG.upd c2 ?_)|refine AG.det (hpk) ?_|refine AG.det (f1) ?_|(refine AQ rfl (fun h=>?_) (fun h=>?_)<;>try (cases h;done)))<;>try simp -implicitDefEqProofs only [hne,p4.BO,p5.BO,p4.cell,p5.cell,p4.cells,p5.cells,if_true,go_sem])|(refine ⟨fun h=>?_,fun h=>?_⟩<;>first|(cases h;done)|try simp only [h])|fail))
   (apply NN.vP (cx:=B8) q5;rfl;simp;(simp only [AI,AD,AF];omega);decide;intro v2 τ2 ho hbk hkp)
   obtain ⟨r5,r6⟩:=hkp _ _ _ _ q4 p6.symm
   simp -implicitDefEqProofs only [ho.BO,ho.As,ho.cells,ho.cell,p4.cell,p5.cell,if_true,go_sem]
   (repeat' (first|refine Run.ct rfl ?_|((first|refine Run.reg mixed ?_|refine Run.AM ?_|(refine AQ rfl (fun h=>?_) (fun h=>?_)<;>try (cases h;done)))<;>try simp -implicitDefEqProofs only [ho.BO,ho.As,ho.cells,ho.cell,go_sem])|(refine ⟨fun h=>?_,fun h=>?_⟩<;>first|(cases h;done)|try simp only [h])|fail))
   refine ih (s4,ds,fs++[⟨fn,fp,.mk o0 n0 u0 ns0 ks0 al0⟩],q,vd,v2,τ2) ⟨h4,by simp only;omega,by simp only [AA,AD,AF];omega,r5,?_,r6.symm,by simp [hbk,AO],p8⟩ (by simp only;omega)
   simp only [Bc,AE,AH,FE.enc,Ex.A3]
   exact ho
  |false=>
  have f2:=Ci p1 _ τ p7 t2
  rw [t2,if_neg (by decide)] at p8
  have c1:=TJ p1 τ p7
  have h3:=p1.fail
  have l3:=ZS p1.wf
  have h2':=tV p1.wf hk
  have q4:=p4.cP (Lp σ i) (psA L s2.fail)
  have q5:=p5.cP (Lp σ i) (psA L s2.fail)
  (repeat' (first|refine Run.ct rfl ?_|((first|refine Run.reg mixed ?_|refine Run.AM ?_|(refine AG.upd c1 ?_)|refine AG.det (hpk) ?_|refine AG.det (f1) ?_|refine AG.det (f2) ?_|(refine AQ rfl (fun h=>?_) (fun h=>?_)<;>try (cases h;done)))<;>try simp -implicitDefEqProofs only [hne,p4.BO,p5.BO,p4.cell,p5.cell,p4.cells,p5.cells,if_true,go_sem])|(refine ⟨fun h=>?_,fun h=>?_⟩<;>first|(cases h;done)|try simp only [h])|fail))
  exact ih (s2.fail,ds,fs,q,vd,vf,_) ⟨h3,by simp only;omega,by simp only;omega,q4,q5,p6,by simp [AO],p8⟩ (by simp only;omega)
end Go.Ab
namespace Go.Ab
open Go.Proofs
def Yf (r:Pg×Nat×Int):AV:= .tup [pgA r.1,.d (.int .i64 ((r.2.1:Nat):Int)),.d (.int .i64 r.2.2)]
theorem vQ (L:List Tok):[AV.d (.sl (L.map Tok.enc)),.d (.int .i64 0),.d (.bool false),.d (.int .i64 0)]=psA L ⟨L,false,0⟩:=by
 unfold psA Wo;simp
theorem oU {σ:AN} {j:Nat} (h:σ.blk j=none) (cs:List AV):σ.le (σ.AL j cs):=VO (AN.le_refl σ) h cs
theorem Km (src:Str) (σ:AN) (g0:VZ σ):AT Tryz.prog 12 [.d (.str src)] σ (fun v σ'=>v=Yf (Ea src)∧σ'=σ):=by
 refine Vo (by simp) ?_
 rw [BM]
 have hsp:=Qr src σ
 by_cases he:(BF src).2.2=0
 · obtain ⟨hw,ho⟩:=Wb he
   have hN:=iX he
   have hne:((BF src).2.2 != 0)=false:=by rw [he];rfl
   rw [Oa he]
   have hprog:=fun (j:Nat) (hj:σ.blk j=none)=>cK j hN (σ.AL j (psA (BF src).1 ⟨(BF src).1,false,0⟩)) ⟨(BF src).1,false,0⟩ g0 ⟨hw,List.suffix_refl _,ho.1⟩ (by have:=FC;have:=ho.1;simp only;omega) (by rw [AO,if_pos rfl])
   have hsm:=Ug (p:=0) hw ho.1
   simp only [Sh] at hsp
   generalize (BF src).1=L at hsp hw ho hN hprog hsm ⊢
   generalize (BF src).2.1=pos at hsp ⊢
   rw [he] at hsp
   generalize KO.run ⟨L,false,0⟩=y at hprog hsm ⊢
   obtain ⟨p,s1⟩:=y
   simp only at hprog hsm
   simp only [A0] at hprog
   obtain ⟨ds,fs⟩:=p
   simp only [pgA,Pg.enc,AE,AH] at hprog
   have h00:((0:Int) != 0)=false:=rfl
   (repeat' (first|refine Run.ct rfl ?_|((first|refine Run.reg mixed ?_|refine Run.AM ?_|refine AG.det (hsp) ?_|(refine AQ rfl (fun h=>?_) (fun h=>?_)<;>try (cases h;done)))<;>try simp -implicitDefEqProofs only [h00,go_sem])|(refine ⟨fun h=>?_,fun h=>?_⟩<;>first|(cases h;done)|try simp only [h])|fail))
   intro j hj
   have hle:=oU hj (psA L s1)
   have hb:(σ.AL j (psA L s1)).blk j=some (psA L s1):=by rw [AO,if_pos rfl]
   have hst:psA L s1=[.d (Wo L),.d (.int .i64 ((L.length - s1.r.length:Nat):Int)),.d (.bool s1.f),.d (.int .i64 ((s1.p:Nat):Int))]:=rfl
   rw [vQ]
   cases hf:s1.f with
   |true=>
    rw [hf] at hst
    have hfin:XH (⟨ds,fs⟩,s1)=(⟨[],[]⟩,s1.p,2):=if_pos hf
    rw [hfin]
    simp only [Yf,pgA,Pg.enc,AE,AH]
    (repeat' (first|refine Run.ct rfl ?_|((first|refine Run.reg mixed ?_|refine Run.AM ?_|(refine AG.upd (hprog j hj) ?_)|(refine AQ rfl (fun h=>?_) (fun h=>?_)<;>try (cases h;done)))<;>try simp -implicitDefEqProofs only [hst,hf,go_sem])|(refine ⟨fun h=>?_,fun h=>?_⟩<;>first|(cases h;done)|try simp only [h])|fail))
    rw [← hst]
    refine Run.Q9 mixed ?_;simp -implicitDefEqProofs only [hst,hf,go_sem]
    rw [← hst]
    (repeat' (first|refine Run.ct rfl ?_|((first|refine Run.reg mixed ?_|refine Run.AM ?_|(refine Run.Af GR hle ?_)|(refine AQ rfl (fun h=>?_) (fun h=>?_)<;>try (cases h;done)))<;>try simp -implicitDefEqProofs only [go_sem])|(refine ⟨fun h=>?_,fun h=>?_⟩<;>first|(cases h;done)|try simp only [h])|fail))
   |false=>
    rw [hf] at hst
    have hV:=Kn ⟨ds,fs⟩ (σ.AL j (psA L s1)) (fun d hd c hc t ht=>At (hsm hf d hd c hc t ht) (by omega))
    simp only [pgA,Pg.enc,AE,AH] at hV
    have hfin:XH (⟨ds,fs⟩,s1)=if EW ⟨ds,fs⟩ then (⟨ds,fs⟩,0,0) else (⟨[],[]⟩,0,9):=if_neg (by rw [hf];decide)
    rw [hfin]
    cases hv:EW ⟨ds,fs⟩ with
    |true=>
     rw [hv] at hV
     simp only [if_true,Yf,pgA,Pg.enc,AE,AH]
     (repeat' (first|refine Run.ct rfl ?_|((first|refine Run.reg mixed ?_|refine Run.AM ?_|(refine AG.upd (hprog j hj) ?_)|(refine AQ rfl (fun h=>?_) (fun h=>?_)<;>try (cases h;done)))<;>try simp -implicitDefEqProofs only [hst,hf,go_sem])|(refine ⟨fun h=>?_,fun h=>?_⟩<;>first|(cases h;done)|try simp only [h])|fail))
     rw [← hst]
     (repeat' (first|refine Run.ct rfl ?_|((first|refine Run.reg mixed ?_|refine Run.AM ?_|(refine Run.Af GR hle ?_)|refine AG.det (hV) ?_|(refine AQ rfl (fun h=>?_) (fun h=>?_)<;>try (cases h;done)))<;>try simp -implicitDefEqProofs only [hf,go_sem])|(refine ⟨fun h=>?_,fun h=>?_⟩<;>first|(cases h;done)|try simp only [h])|fail))
     rfl
    |false=>
     rw [hv] at hV
     simp only [if_false,AY,Yf,pgA,Pg.enc,AE,AH]
     (repeat' (first|refine Run.ct rfl ?_|((first|refine Run.reg mixed ?_|refine Run.AM ?_|(refine AG.upd (hprog j hj) ?_)|(refine AQ rfl (fun h=>?_) (fun h=>?_)<;>try (cases h;done)))<;>try simp -implicitDefEqProofs only [hst,hf,go_sem])|(refine ⟨fun h=>?_,fun h=>?_⟩<;>first|(cases h;done)|try simp only [h])|fail))
     rw [← hst]
     (repeat' (first|refine Run.ct rfl ?_|((first|refine Run.reg mixed ?_|refine Run.AM ?_|(refine Run.Af GR hle ?_)|refine AG.det (hV) ?_|(refine AQ rfl (fun h=>?_) (fun h=>?_)<;>try (cases h;done)))<;>try simp -implicitDefEqProofs only [hf,go_sem])|(refine ⟨fun h=>?_,fun h=>?_⟩<;>first|(cases h;done)|try simp only [h])|fail))
     rfl
 · have hne:((BF src).2.2 != 0)=true:=by simpa using he
   have hp:Ea src=(⟨[],[]⟩,(BF src).2.1,(BF src).2.2):=if_pos he
   rw [hp]
   simp only [Sh] at hsp
   simp only [Yf,pgA,Pg.enc,AE,AH]
   (repeat' (first|refine Run.ct rfl ?_|((first|refine Run.reg mixed ?_|refine Run.AM ?_|refine Run.Af GR (AN.le_refl _) ?_|refine AG.det (hsp) ?_|(refine AQ rfl (fun h=>?_) (fun h=>?_)<;>try (cases h;done)))<;>try simp -implicitDefEqProofs only [hne,go_sem])|(refine ⟨fun h=>?_,fun h=>?_⟩<;>first|(cases h;done)|try simp only [h])|fail))
end Go.Ab
namespace Go.Ab
open Go.Proofs
def X8:Str:=[102,117,110,32,102,40,120,41,61,105,102,32,120,60,61,48,32,116,104,101,110,40,41,32,101,108,115,101,32,102,40,120,45,49,41,59]
def j0:Str:=[102,117,110,32,102,40,120,41,32,61,32,105,102,32,120,32,60,61,32,48,32,116,104,101,110,32,40,41,32,101,108,115,101,32,102,40,120,32,45,32,49,41,59,10]
def nmE (s:Str):Ex:= .mk 4 s 0 [] [] []
def awE:Ex:= .mk 9 [] 0 [] [.mk 13 [] 7 [] [nmE [120],.mk 3 [] 0 [] [] []] [],.mk 1 [] 0 [] [] [],.mk 12 [] 0 [] [nmE [102],.mk 13 [] 2 [] [nmE [120],.mk 3 [] 1 [] [] []] []] []] []
def awQ:Pg:=⟨[],[⟨[102],[[120]],awE⟩]⟩
theorem eC:Lib.itoa 0=[48]∧Lib.itoa 1=[49]:=by
 constructor<;>simp [Lib.itoa,Lib.decDigits]
theorem YL:Up awQ=j0:=by
 have h0:=eC.1
 have h1:=eC.2
 have e1:Ax (.mk 3 [] 0 [] [] [])=[48]:=by rw [← h0];rfl
 have e2:Ax (.mk 3 [] 1 [] [] [])=[49]:=by rw [← h1];rfl
 have e3:Ax (.mk 13 [] 7 [] [nmE [120],.mk 3 [] 0 [] [] []] [])=[120,32,60,61,32]++Ax (.mk 3 [] 0 [] [] []):=rfl
 have e4:Ax (.mk 13 [] 2 [] [nmE [120],.mk 3 [] 1 [] [] []] [])=[120,32,45,32]++Ax (.mk 3 [] 1 [] [] []):=rfl
 have e6:Ax (.mk 12 [] 0 [] [nmE [102],.mk 13 [] 2 [] [nmE [120],.mk 3 [] 1 [] [] []] []] [])=[102,40]++(Lib.join [Ax (.mk 13 [] 2 [] [nmE [120],.mk 3 [] 1 [] [] []] [])] [44,32]++[41]):=rfl
 have e7:Ax awE=[105,102,32]++(Ax (.mk 13 [] 7 [] [nmE [120],.mk 3 [] 0 [] [] []] [])++([32,116,104,101,110,32]++([40,41]++([32,101,108,115,101,32]++Ax (.mk 12 [] 0 [] [nmE [102],.mk 13 [] 2 [] [nmE [120],.mk 3 [] 1 [] [] []] []] []))))):=rfl
 have e8:Up awQ=(([102,117,110,32]++([102]++(Hy [[120]]++([32,61,32]++(Ax awE++[59,10])))))++[]):=rfl
 have e9:Hy [[120]]=[40,120,41]:=by decide
 rw [e8,e7,e6,Lib.join_one,e3,e4,e1,e2,e9];rfl
theorem X7:EW awQ=true:=by decide+kernel
theorem fT:(BF X8).2.2=0∧(BF j0).2.2=0∧strip (BF X8).1=strip (BF j0).1:=by decide+kernel
theorem fS:(Ea X8).1=awQ∧(Ea X8).2.2=0:=by
 obtain ⟨h1,h2,h3⟩:=fT
 have hb:=WG X7 (by rw [YL];decide)
 rw [YL] at hb
 have hp:=Zk h1 h2 h3
 rw [hb] at hp
 exact hp
theorem Vy (σ:AN) (hg:VZ σ) (hp:σ.gt Q7=some Se):AT Tryz.prog 15 [] σ (fun v σ'=>v= .d (.bool true)∧σ'=σ):=by
 have hpa:=Km X8 σ hg
 have hfm:=Nz awQ σ hp (fun d hd=>by cases hd)
 rw [X7,if_pos rfl,YL] at hfm
 obtain ⟨h1,h2⟩:=fS
 generalize Ea X8=r at hpa h1 h2
 obtain ⟨q,at',code⟩:=r
 simp only at h1 h2
 subst h1 h2
 simp only [Yf,pgA,Pg.enc,AE,AH] at hpa hfm
 refine XI (by simp) ?_
 rw [show Ar []=U from by funext s;simp [Ar,U]]
 (repeat' (first|refine Run.ct rfl ?_|((first|refine Run.reg mixed ?_|refine Run.AM ?_|refine Run.Af Rz (AN.le_refl _) ?_|refine AG.det (hpa) ?_|refine AG.det (hfm) ?_|(refine AQ rfl (fun h=>?_) (fun h=>?_)<;>try (cases h;done)))<;>try simp -implicitDefEqProofs only [A5,go_sem])|(refine ⟨fun h=>?_,fun h=>?_⟩<;>first|(cases h;done)|try simp only [h])|fail))
 exact ⟨rfl,rfl⟩
end Go.Ab
namespace Go.Ab
open Go.Proofs
end Go.Ab
namespace Go.Ab
open Go.Proofs
end Go.Ab
namespace Go.Ab
open Go.Proofs
end Go.Ab
