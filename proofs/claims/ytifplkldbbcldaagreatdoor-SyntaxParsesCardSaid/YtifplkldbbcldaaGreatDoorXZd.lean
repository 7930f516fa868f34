/- The reference's parser: types. The parser: expressions of the highest level. Conditions: none. -/
import Derived.Test.YtifplkldbbcldaaGreatDoorXUd
set_option linter.unusedSimpArgs false
set_option linter.unusedVariables false
set_option maxRecDepth 4000
set_option maxHeartbeats 8000000
open Bool renaming eq_false_iff→Jz,false_eq_true→AL
open List renaming map_cons→AB,map_nil→AE,length_pos_iff→A5,nil_append→A6,map_append→Ax,length_map→AJ,length_cons→AG,length_nil→AI
namespace Go.Ab
open Go.Proofs
theorem Lo {σ:AK} {i:Nat} {cs:List AV} (h:σ.blk i=some cs):σ.AH i cs=σ:=by
 obtain ⟨b,t,g,u⟩:=σ
 simp only [AK.AH,AK.mk.injEq,and_true]
 funext j
 by_cases e:j=i
 · subst e;simpa using h.symm
 · simp [e]
theorem RSt.AE0 {s:RSt} {a b:Str} (h:s.is a=true) (hab:a≠b):s.is b=false:=by
 rw [Jz]
 intro h2
 exact hab ((RSt.Vr h).2.2.symm.trans (RSt.Vr h2).2.2)
theorem GR {α:Type} {read:RM α} {s:RSt}:(OS read).run s=(((BX read [44]).run s).1,((RM.A9 [41]).run ((BX read [44]).run s).2).2):=rfl
theorem WJ {α:Type} {read:RM α} {s:RSt} (h:s.is [40]=true):(YF read).run s=(OS read).run s.adv:=if_pos h
theorem WI {α:Type} {read:RM α} {s:RSt} (h:s.is [40]=false):(YF read).run s=([],s):=if_neg (by rw [h];decide)
theorem X0 {n:Nat} {s:RSt} (h:s.b=true):(FR n).run s=(.mk 0 [] [],s):=by
 cases n with
 |zero=>
  obtain ⟨r,b⟩:=s
  simp only at h;subst h;rfl
 |succ n=>rw [FR];exact if_pos h
theorem aW (i:Nat) (L:List Tok) {s0:RSt} (σ:AK) (b0:σ.blk i=some (rsA L s0)) (hbad:s0.b=true):AP Tryz.prog 132 [.gp i 0] σ (fun v σ'=>v=teA (.mk 0 [] [])∧σ'=σ):=by
 refine R4 (by simp) ?_
 rw [Ar]
 have hst:rsA L s0=[.d (.sl (L.map Tok.enc)),.d (.int .i64 ((L.length - s0.r.length:Nat):Int)),.d (.bool s0.b)]:=rfl
 rw [hst,hbad] at b0
 simp only [teA,TE.AS,AB,AE]
 (repeat' (first|refine ctQ rfl ?_|((first|refine rgQ mxQ ?_|refine cdQ ?_|refine Run.A2 B4 (AK.le_refl _) ?_)<;>try simp -implicitDefEqProofs only [b0,go_sem])|fail))
theorem nI {α:Type} {read:RM α} {t:Str} {s:RSt} {a:α} (h:s.b=true) (hr:read.run s=(a,s)):(BX read t).run s=([a],s):=by
 rw [Ig,hr]
 have hf:=Bo
 obtain ⟨m,hm⟩:∃m,Af=m+1:=⟨Af - 1,by omega⟩
 rw [hm]
 exact FP (RSt.mG t h)
theorem nN (i:Nat) (L:List Tok) {s0:RSt} (h0:ROk L s0) (σ:AK) (b0:σ.blk i=some (rsA L s0)) (hbad:s0.b=true):AP Tryz.prog 76 [.gp i 0] σ (fun v σ'=>v= .d (.sl [[.int .i64 0,.str [],.sl []]])∧σ'=σ):=by
 have h:AP Tryz.prog 76 [.gp i 0] σ (fun v σ'=>Cg σ 75 3 [[.int .i64 0,.str [],.sl []]] v σ'):=by
  refine OP (by simp) ?_
  rw [Ar]
  have c0:=aW i L σ b0 hbad
  simp only [teA,TE.AS,AB,AE] at c0
  (repeat' (first|refine ctQ rfl ?_|((first|refine rgQ mxQ ?_|refine cdQ ?_|(refine Fh.own rfl (by decide) (fun tk htk=>?_))|refine AD.det (c0) ?_)<;>try simp -implicitDefEqProofs only [go_sem])|fail))
  refine Run.BU (Run.again ?_)
  have hf:=CN h0 [44] (σ.CO tk) (by rw [Ep];exact b0) (RSt.mG _ hbad)
  have ho:Cg σ 75 3 [[.int .i64 0,.str [],.sl []]] (.own tk 75 3 [[.int .i64 0,.str [],.sl []]]) (σ.CO tk):=Cg.own (AK.le_refl σ) (AK.le_refl σ) htk
  (repeat' (first|refine ctQ rfl ?_|((first|refine rgQ mxQ ?_|refine cdQ ?_|(refine Run.FT J0 (AK.le_refl _) ?_)|refine AD.det (hf) ?_)<;>try simp -implicitDefEqProofs only [ho.BL,if_true,go_sem])|fail))
  exact ho
 exact h.vY
set_option maxHeartbeats 8000000 in
theorem pR (i:Nat) (L:List Tok):∀n,RPC 132 [.gp i 0] i L n (FR n) teA
 |0=>fun σ s _ h1 h2 h3=>by have:=A5.2 h1.wf.ne;omega
 |n+1=>by
  have ih:=pR i L n
  intro σ s0 g0 h0 l0 b0
  cases hbad:s0.b with
  |true=>
   have hσ:σ.AH i (rsA L s0)=σ:=Lo b0
   rw [X0 hbad,hσ]
   exact aW i L σ b0 hbad
  |false=>
  refine R4 (by simp) ?_
  rw [Ar]
  rw [FR]
  simp only [WL,XP,H9]
  have hst:rsA L s0=[.d (.sl (L.map Tok.enc)),.d (.int .i64 ((L.length - s0.r.length:Nat):Int)),.d (.bool s0.b)]:=rfl
  have b0':=b0
  rw [hst] at b0'
  have hat:=h0.at
  rw [hbad] at b0'
  simp only [hbad,if_false,AL]
  cases t1:s0.is [105,110,116] with
  |true=>
   simp only [if_true,BK,teA,TE.AS,AB,AE]
   (have c0:=CU h0 [105,110,116] σ b0 t1;have h1:=h0.adv (t:=[105,110,116]) (by decide) t1;have l1:=Am h0.wf;generalize s0.adv=s1 at c0 h1 l1 ⊢;have b1:(σ.AH i (rsA L s1)).blk i=some (rsA L s1):=by rw [AZ,if_pos rfl])
   (repeat' (first|refine ctQ rfl ?_|((first|refine rgQ mxQ ?_|refine cdQ ?_|refine Run.A2 B4 (AK.le_refl _) ?_|(refine AD.upd c0 ?_))<;>try simp -implicitDefEqProofs only [b0',go_sem])|fail))
  |false=>
  have f1:=CN h0 _ σ b0 t1
  cases t2:s0.is [98,111,111,108] with
  |true=>
   simp only [if_true,if_false,AL,BK,teA,TE.AS,AB,AE]
   (have c0:=CU h0 [98,111,111,108] σ b0 t2;have h1:=h0.adv (t:=[98,111,111,108]) (by decide) t2;have l1:=Am h0.wf;generalize s0.adv=s1 at c0 h1 l1 ⊢;have b1:(σ.AH i (rsA L s1)).blk i=some (rsA L s1):=by rw [AZ,if_pos rfl])
   (repeat' (first|refine ctQ rfl ?_|((first|refine rgQ mxQ ?_|refine cdQ ?_|refine Run.A2 B4 (AK.le_refl _) ?_|(refine AD.upd c0 ?_)|refine AD.det (f1) ?_)<;>try simp -implicitDefEqProofs only [b0',go_sem])|fail))
  |false=>
  have f2:=CN h0 _ σ b0 t2
  cases t3:s0.is [117,110,105,116] with
  |true=>
   simp only [if_true,if_false,AL,BK,teA,TE.AS,AB,AE]
   (have c0:=CU h0 [117,110,105,116] σ b0 t3;have h1:=h0.adv (t:=[117,110,105,116]) (by decide) t3;have l1:=Am h0.wf;generalize s0.adv=s1 at c0 h1 l1 ⊢;have b1:(σ.AH i (rsA L s1)).blk i=some (rsA L s1):=by rw [AZ,if_pos rfl])
   (repeat' (first|refine ctQ rfl ?_|((first|refine rgQ mxQ ?_|refine cdQ ?_|refine Run.A2 B4 (AK.le_refl _) ?_|(refine AD.upd c0 ?_)|refine AD.det (f1) ?_|refine AD.det (f2) ?_)<;>try simp -implicitDefEqProofs only [b0',go_sem])|fail))
  |false=>
  have f3:=CN h0 _ σ b0 t3
  cases hk1:s0.hd.kind==1 with
  |true=>
   simp only [if_true,if_false,AL,BD,BK,teA,TE.AS,AB,AE]
   (have c0:=(Lh i L (n+1)) σ s0 g0 h0 (by omega) b0;have h1:=h0.run (D9);have l1:=RM.le (D9) h0.wf;generalize (D9).run s0=y at c0 h1 l1 ⊢;obtain ⟨x0,s1⟩:=y;simp only at c0 h1 l1 ⊢;have b1:(σ.AH i (rsA L s1)).blk i=some (rsA L s1):=AX)
   (repeat' (first|refine ctQ rfl ?_|((first|refine rgQ mxQ ?_|refine cdQ ?_|refine Run.A2 B4 (AK.le_refl _) ?_|(refine AD.upd c0 ?_)|refine AD.det (f1) ?_|refine AD.det (f2) ?_|refine AD.det (f3) ?_)<;>try simp -implicitDefEqProofs only [b0',hat,hk1,go_sem])|fail))
  |false=>
  cases hk2:s0.hd.kind==2 with
  |true=>
   simp only [if_true,if_false,AL,BD,BK,teA,TE.AS,AB,AE]
   have hlt:=Am h0.wf
   have hkb:Fv.run s0=(s0.hd.text,s0.adv):=if_pos (by rw [hbad,hk2];rfl)
   have c0:=Pj i L (n+1) σ s0 g0 h0 (by omega) b0
   rw [hkb] at c0 ⊢
   have h1:=h0.yJ (by have:=(beq_iff_eq.1 hk2);omega)
   have l1:=Am h0.wf
   simp only at c0 ⊢
   generalize s0.adv=s1 at c0 h1 l1 ⊢
   have b1:(σ.AH i (rsA L s1)).blk i=some (rsA L s1):=AX
   cases hp:s1.is [40] with
   |true=>
    rw [WJ hp,GR]
    (have c1:=CU h1 [40] (σ.AH i (rsA L s1)) b1 hp;rw [AN] at c1;have h2:=h1.adv (t:=[40]) (by decide) hp;have l2:=Am h1.wf;generalize s1.adv=s2 at c1 h2 l2 ⊢;have b2:(σ.AH i (rsA L s2)).blk i=some (rsA L s2):=by rw [AZ,if_pos rfl])
    (have c2:=(Tb i L n ih).pc (σ.AH i (rsA L s2)) s2 g0 h2 (by omega) b2;rw [AN] at c2;have h3:=h2.run (BX (FR n) [44]);have l3:=RM.le (BX (FR n) [44]) h2.wf;generalize (BX (FR n) [44]).run s2=y at c2 h3 l3 ⊢;obtain ⟨x2,s3⟩:=y;simp only at c2 h3 l3 ⊢;have b3:(σ.AH i (rsA L s3)).blk i=some (rsA L s3):=AX)
    (have c3:=(B7 i L n [41]) (σ.AH i (rsA L s3)) s3 g0 h3 (by omega) b3;rw [AN] at c3;have h4:=h3.run (RM.A9 [41]);have l4:=RM.le (RM.A9 [41]) h3.wf;generalize (RM.A9 [41]).run s3=y at c3 h4 l4 ⊢;obtain ⟨x3,s4⟩:=y;simp only at c3 h4 l4 ⊢;have b4:(σ.AH i (rsA L s4)).blk i=some (rsA L s4):=AX)
    (repeat' (first|refine ctQ rfl ?_|((first|refine rgQ mxQ ?_|refine cdQ ?_|refine Run.A2 B4 (AK.le_refl _) ?_|(refine AD.upd c0 ?_)|(refine AD.upd c1 ?_)|(refine AD.upd c2 ?_)|(refine AD.upd c3 ?_)|refine AD.det (f1) ?_|refine AD.det (f2) ?_|refine AD.det (f3) ?_)<;>try simp -implicitDefEqProofs only [b0',hat,hk1,hk2,go_sem])|fail))
   |false=>
    rw [WI hp]
    have f4:=CN h1 _ _ b1 hp
    (repeat' (first|refine ctQ rfl ?_|((first|refine rgQ mxQ ?_|refine cdQ ?_|refine Run.A2 B4 (AK.le_refl _) ?_|(refine AD.upd c0 ?_)|refine AD.det (f1) ?_|refine AD.det (f2) ?_|refine AD.det (f3) ?_|refine AD.det (f4) ?_)<;>try simp -implicitDefEqProofs only [b0',hat,hk1,hk2,go_sem])|fail))
  |false=>
  cases ta:s0.is [97,114,114,97,121] with
  |true=>
   have ra:=VL h0 [97,114,114,97,121] σ b0
   have rr:=VL h0 [114,101,102] σ b0
   rw [ta] at ra
   rw [RSt.AE0 (b:=[114,101,102]) ta (by decide)] at rr
   simp only [if_true,if_false,AL,jU,BD,BK,teA,TE.AS,AB,AE]
   have e1:rsA L s0.adv=[.d (.sl (L.map Tok.enc)),.d (.int .i64 (((L.length - s0.r.length)+1:Nat):Int)),.d (.bool false)]:=by rw [Ys h0,hbad];rfl
   have hw:=BV (a:=L.length - s0.r.length) (by have:=h0.idx.2;omega)
   have h1:=h0.adv trivial ta
   have l1:=Am h0.wf
   generalize s0.adv=s1 at e1 h1 l1 ⊢
   have b1:(σ.AH i (rsA L s1)).blk i=some (rsA L s1):=AX
   (have c1:=(B7 i L n [40]) (σ.AH i (rsA L s1)) s1 g0 h1 (by omega) b1;rw [AN] at c1;have h2:=h1.run (RM.A9 [40]);have l2:=RM.le (RM.A9 [40]) h1.wf;generalize (RM.A9 [40]).run s1=y at c1 h2 l2 ⊢;obtain ⟨x1,s2⟩:=y;simp only at c1 h2 l2 ⊢;have b2:(σ.AH i (rsA L s2)).blk i=some (rsA L s2):=AX)
   (have c2:=ih (σ.AH i (rsA L s2)) s2 g0 h2 (by omega) b2;rw [AN] at c2;have h3:=h2.run (FR n);have l3:=RM.le (FR n) h2.wf;generalize (FR n).run s2=y at c2 h3 l3 ⊢;obtain ⟨x2,s3⟩:=y;simp only at c2 h3 l3 ⊢;have b3:(σ.AH i (rsA L s3)).blk i=some (rsA L s3):=AX;obtain ⟨k0,n0,a0⟩:=x2;simp only [teA,TE.AS,AB,AE] at c2 ⊢)
   (have c3:=(B7 i L n [41]) (σ.AH i (rsA L s3)) s3 g0 h3 (by omega) b3;rw [AN] at c3;have h4:=h3.run (RM.A9 [41]);have l4:=RM.le (RM.A9 [41]) h3.wf;generalize (RM.A9 [41]).run s3=y at c3 h4 l4 ⊢;obtain ⟨x3,s4⟩:=y;simp only at c3 h4 l4 ⊢;have b4:(σ.AH i (rsA L s4)).blk i=some (rsA L s4):=AX)
   rw [e1] at c1
   (repeat' (first|refine ctQ rfl ?_|((first|refine rgQ mxQ ?_|refine cdQ ?_|refine Run.A2 B4 (AK.le_refl _) ?_|(refine AD.upd c1 ?_)|(refine AD.upd c2 ?_)|(refine AD.upd c3 ?_)|refine AD.det (f1) ?_|refine AD.det (f2) ?_|refine AD.det (f3) ?_|refine AD.det (ra) ?_|refine AD.det (rr) ?_)<;>try simp -implicitDefEqProofs only [b0',hat,hk1,hk2,hw,go_sem])|fail))
  |false=>
  have ra:=VL h0 [97,114,114,97,121] σ b0
  rw [ta] at ra
  cases tr:s0.is [114,101,102] with
  |true=>
   have rr:=VL h0 [114,101,102] σ b0
   rw [tr] at rr
   simp only [if_true,if_false,AL,jU,BD,BK,teA,TE.AS,AB,AE]
   have e1:rsA L s0.adv=[.d (.sl (L.map Tok.enc)),.d (.int .i64 (((L.length - s0.r.length)+1:Nat):Int)),.d (.bool false)]:=by rw [Ys h0,hbad];rfl
   have hw:=BV (a:=L.length - s0.r.length) (by have:=h0.idx.2;omega)
   have h1:=h0.adv trivial tr
   have l1:=Am h0.wf
   generalize s0.adv=s1 at e1 h1 l1 ⊢
   have b1:(σ.AH i (rsA L s1)).blk i=some (rsA L s1):=AX
   (have c1:=(B7 i L n [40]) (σ.AH i (rsA L s1)) s1 g0 h1 (by omega) b1;rw [AN] at c1;have h2:=h1.run (RM.A9 [40]);have l2:=RM.le (RM.A9 [40]) h1.wf;generalize (RM.A9 [40]).run s1=y at c1 h2 l2 ⊢;obtain ⟨x1,s2⟩:=y;simp only at c1 h2 l2 ⊢;have b2:(σ.AH i (rsA L s2)).blk i=some (rsA L s2):=AX)
   (have c2:=ih (σ.AH i (rsA L s2)) s2 g0 h2 (by omega) b2;rw [AN] at c2;have h3:=h2.run (FR n);have l3:=RM.le (FR n) h2.wf;generalize (FR n).run s2=y at c2 h3 l3 ⊢;obtain ⟨x2,s3⟩:=y;simp only at c2 h3 l3 ⊢;have b3:(σ.AH i (rsA L s3)).blk i=some (rsA L s3):=AX;obtain ⟨k0,n0,a0⟩:=x2;simp only [teA,TE.AS,AB,AE] at c2 ⊢)
   (have c3:=(B7 i L n [41]) (σ.AH i (rsA L s3)) s3 g0 h3 (by omega) b3;rw [AN] at c3;have h4:=h3.run (RM.A9 [41]);have l4:=RM.le (RM.A9 [41]) h3.wf;generalize (RM.A9 [41]).run s3=y at c3 h4 l4 ⊢;obtain ⟨x3,s4⟩:=y;simp only at c3 h4 l4 ⊢;have b4:(σ.AH i (rsA L s4)).blk i=some (rsA L s4):=AX)
   rw [e1] at c1
   (repeat' (first|refine ctQ rfl ?_|((first|refine rgQ mxQ ?_|refine cdQ ?_|refine Run.A2 B4 (AK.le_refl _) ?_|(refine AD.upd c1 ?_)|(refine AD.upd c2 ?_)|(refine AD.upd c3 ?_)|refine AD.det (f1) ?_|refine AD.det (f2) ?_|refine AD.det (f3) ?_|refine AD.det (ra) ?_|refine AD.det (rr) ?_)<;>try simp -implicitDefEqProofs only [b0',hat,hk1,hk2,hw,go_sem])|fail))
  |false=>
  have rr:=VL h0 [114,101,102] σ b0
  rw [tr] at rr
  cases tf:s0.is [102,110] with
  |true=>
   simp only [if_true,if_false,AL,BD,BK,teA,TE.AS,AB,AE]
   (have c0:=CU h0 [102,110] σ b0 tf;have h1:=h0.adv (t:=[102,110]) (by decide) tf;have l1:=Am h0.wf;generalize s0.adv=s1 at c0 h1 l1 ⊢;have b1:(σ.AH i (rsA L s1)).blk i=some (rsA L s1):=by rw [AZ,if_pos rfl])
   (have c1:=(B7 i L n [40]) (σ.AH i (rsA L s1)) s1 g0 h1 (by omega) b1;rw [AN] at c1;have h2:=h1.run (RM.A9 [40]);have l2:=RM.le (RM.A9 [40]) h1.wf;generalize (RM.A9 [40]).run s1=y at c1 h2 l2 ⊢;obtain ⟨x1,s2⟩:=y;simp only at c1 h2 l2 ⊢;have b2:(σ.AH i (rsA L s2)).blk i=some (rsA L s2):=AX)
   cases hp:s2.is [41] with
   |true=>
    rw [XL hp]
    (have c2:=CU h2 [41] (σ.AH i (rsA L s2)) b2 hp;rw [AN] at c2;have h3:=h2.adv (t:=[41]) (by decide) hp;have l3:=Am h2.wf;generalize s2.adv=s3 at c2 h3 l3 ⊢;have b3:(σ.AH i (rsA L s3)).blk i=some (rsA L s3):=by rw [AZ,if_pos rfl])
    (have c3:=(B7 i L n [45,62]) (σ.AH i (rsA L s3)) s3 g0 h3 (by omega) b3;rw [AN] at c3;have h4:=h3.run (RM.A9 [45,62]);have l4:=RM.le (RM.A9 [45,62]) h3.wf;generalize (RM.A9 [45,62]).run s3=y at c3 h4 l4 ⊢;obtain ⟨x3,s4⟩:=y;simp only at c3 h4 l4 ⊢;have b4:(σ.AH i (rsA L s4)).blk i=some (rsA L s4):=AX)
    (have c4:=ih (σ.AH i (rsA L s4)) s4 g0 h4 (by omega) b4;rw [AN] at c4;have h5:=h4.run (FR n);have l5:=RM.le (FR n) h4.wf;generalize (FR n).run s4=y at c4 h5 l5 ⊢;obtain ⟨x4,s5⟩:=y;simp only at c4 h5 l5 ⊢;have b5:(σ.AH i (rsA L s5)).blk i=some (rsA L s5):=AX;obtain ⟨k0,n0,a0⟩:=x4;simp only [teA,TE.AS,AB,AE] at c4 ⊢)
    (repeat' (first|refine ctQ rfl ?_|((first|refine rgQ mxQ ?_|refine cdQ ?_|(refine AD.upd c0 ?_)|(refine AD.upd c1 ?_)|(refine AD.upd c2 ?_)|(refine AD.upd c3 ?_)|(refine AD.upd c4 ?_)|refine AD.det (f1) ?_|refine AD.det (f2) ?_|refine AD.det (f3) ?_|refine AD.det (ra) ?_|refine AD.det (rr) ?_)<;>try simp -implicitDefEqProofs only [b0',hat,hk1,hk2,go_sem])|fail))
    refine (RS.nil σ i L s5 _ _).tok rfl (by simp) (by simp) (by decide) (fun v2 τ2 ho=>?_);simp -implicitDefEqProofs only [ho.own.cells,ho.own.cell,if_true,go_sem]
    (repeat' (first|refine ctQ rfl ?_|((first|refine rgQ mxQ ?_|refine cdQ ?_|(refine Run.A2 B4 ho.le ?_))<;>try simp -implicitDefEqProofs only [ho.own.cell,ho.own.plain,if_true,A6,TE.AS,go_sem])|fail))
   |false=>
    rw [XK hp]
    have f2':=CN h2 _ _ b2 hp
    have c2:=Tb i L n ih (σ.AH i (rsA L s2)) s2 trivial h2 (by omega) b2
    rw [AN] at c2
    have h3:=h2.run (BX (FR n) [44])
    have l3:=RM.le (BX (FR n) [44]) h2.wf
    have n2:=VM (read:=FR n) (t:=[44]) h2.wf
    have q2:=h0.suf.length_le
    have q3:=h0.len
    generalize (BX (FR n) [44]).run s2=y at c2 h3 l3 n2 ⊢
    obtain ⟨x2,s3⟩:=y
    simp only at c2 h3 l3 n2 ⊢
    (repeat' (first|refine ctQ rfl ?_|((first|refine rgQ mxQ ?_|refine cdQ ?_|(refine AD.upd c0 ?_)|(refine AD.upd c1 ?_)|(refine AD.mk rfl c2 ?_;intro v1 τ1 ho1)|refine AD.det (f1) ?_|refine AD.det (f2) ?_|refine AD.det (f3) ?_|refine AD.det (ra) ?_|refine AD.det (rr) ?_|refine AD.det (f2') ?_)<;>try simp -implicitDefEqProofs only [b0',hat,hk1,hk2,go_sem])|fail))
    have hl1:=RS.of ho1
    have e3:=CT h3 [41] τ1 hl1.blk
    have h4:=h3.run (RM.A9 [41])
    have l4:=RM.le (RM.A9 [41]) h3.wf
    have hl2:=hl1.step ((RM.A9 [41]).run s3).2
    generalize ((RM.A9 [41]).run s3).2=s4 at e3 h4 l4 hl2 ⊢
    have e4:=CT h4 [45,62] _ hl2.blk
    rw [AN] at e4
    have h5:=h4.run (RM.A9 [45,62])
    have l5:=RM.le (RM.A9 [45,62]) h4.wf
    have hl3:=hl1.step ((RM.A9 [45,62]).run s4).2
    generalize ((RM.A9 [45,62]).run s4).2=s5 at e4 h5 l5 hl3 ⊢
    have c5:=ih _ s5 trivial h5 (by omega) hl3.blk
    rw [AN] at c5
    have hl4:=hl1.step ((FR n).run s5).2
    generalize (FR n).run s5=y at c5 hl4 ⊢
    obtain ⟨x5,s6⟩:=y
    obtain ⟨k0,n0,a0⟩:=x5
    simp only [teA,TE.AS,AB,AE] at c5 hl4 ⊢
    try simp -implicitDefEqProofs only [ho1.cells,ho1.cell,go_sem]
    (repeat' (first|refine ctQ rfl ?_|((first|refine rgQ mxQ ?_|refine cdQ ?_|(refine AD.upd e3 ?_)|(refine AD.upd e4 ?_)|(refine AD.upd c5 ?_))<;>try simp -implicitDefEqProofs only [ho1.cell,go_sem])|fail))
    refine hl4.tok rfl (by simp) (by simp;omega) (by decide) (fun v2 τ2 ho=>?_);simp -implicitDefEqProofs only [ho.own.cells,ho.own.cell,if_true,go_sem]
    (repeat' (first|refine ctQ rfl ?_|((first|refine rgQ mxQ ?_|refine cdQ ?_|(refine Run.A2 B4 ho.le ?_))<;>try simp -implicitDefEqProofs only [ho.own.cell,ho.own.plain,if_true,Ax,AB,AE,TE.AS,go_sem])|fail))
  |false=>
  have ff:=CN h0 _ σ b0 tf
  simp only [if_false,AL,BD,BK,GR,teA,TE.AS,AB,AE]
  cases hop:s0.is [40] with
  |false=>
   have c0:=CT h0 [40] σ b0
   have hr:(RM.A9 [40]).run s0=((),⟨s0.r,true⟩):=if_neg (by rw [hop];decide)
   rw [hr] at c0 ⊢
   simp only at c0 ⊢
   have h1:=h0.bad
   have hb1:(⟨s0.r,true⟩:RSt).b=true:=rfl
   generalize (⟨s0.r,true⟩:RSt)=s1 at c0 h1 hb1 ⊢
   have b1:(σ.AH i (rsA L s1)).blk i=some (rsA L s1):=AX
   have hnd:∀t,((RM.A9 t).run s1).2=s1:=fun t=>(RM.A9 t).st s1 hb1
   have c1:=aW i L _ b1 hb1
   rw [X0 hb1]
   simp only [hnd]
   rw [nI hb1 (X0 hb1)]
   simp only [hnd,AB,AE,TE.AS]
   simp only [teA,TE.AS,AB,AE] at c1
   (repeat' (first|refine ctQ rfl ?_|((first|refine rgQ mxQ ?_|refine cdQ ?_|(refine AD.upd c0 ?_)|(refine AD.upd c1 ?_)|refine AD.det (f1) ?_|refine AD.det (f2) ?_|refine AD.det (f3) ?_|refine AD.det (ra) ?_|refine AD.det (rr) ?_|refine AD.det (ff) ?_)<;>try simp -implicitDefEqProofs only [b0',hat,hk1,hk2,go_sem])|fail))
   refine Fh.own rfl (by decide) (fun tk htk=>?_);simp -implicitDefEqProofs only [go_sem]
   have hl1:=RS.dF (e:=75) (z:=3) (rows:=[[.int .i64 0,.str [],.sl []]]) htk
   generalize hτ:(σ.AH i (rsA L s1)).CO tk=τ at hl1 ⊢
   have e2:=CT h1 [44] τ hl1.blk
   rw [hnd,Lo hl1.blk] at e2
   have e3:=nN i L h1 τ hl1.blk hb1
   (repeat' (first|refine ctQ rfl ?_|((first|refine rgQ mxQ ?_|refine cdQ ?_|(refine AD.upd e2 ?_)|refine AD.det (e3) ?_)<;>try simp -implicitDefEqProofs only [go_sem])|fail))
   refine hl1.tok rfl (by simp) (by simp) (by decide) (fun v2 τ2 ho=>?_);simp -implicitDefEqProofs only [ho.own.cells,ho.own.cell,if_true,go_sem]
   have e4:=CT h1 [41] τ2 ho.blk
   rw [hnd,Lo ho.blk] at e4
   (repeat' (first|refine ctQ rfl ?_|((first|refine rgQ mxQ ?_|refine cdQ ?_|(refine AD.upd e4 ?_)|(refine Run.A2 B4 ho.le ?_))<;>try simp -implicitDefEqProofs only [ho.own.cell,ho.own.plain,if_true,go_sem])|fail))
  |true=>
   have hr:((RM.A9 [40]).run s0).2=s0.adv:=by
    show (if s0.is [40] then ((),s0.adv) else ((),(⟨s0.r,true⟩:RSt))).2=_
    rw [if_pos hop]
   have c0:=CT h0 [40] σ b0
   rw [hr] at c0 ⊢
   have h1:=h0.adv trivial hop
   have l1:=Am h0.wf
   generalize s0.adv=s1 at c0 h1 l1 ⊢
   have b1:(σ.AH i (rsA L s1)).blk i=some (rsA L s1):=AX
   (have c1:=ih (σ.AH i (rsA L s1)) s1 g0 h1 (by omega) b1;rw [AN] at c1;have h2:=h1.run (FR n);have l2:=RM.le (FR n) h1.wf;generalize (FR n).run s1=y at c1 h2 l2 ⊢;obtain ⟨x1,s2⟩:=y;simp only at c1 h2 l2 ⊢;have b2:(σ.AH i (rsA L s2)).blk i=some (rsA L s2):=AX;obtain ⟨k0,n0,a0⟩:=x1;simp only [teA,TE.AS,AB,AE] at c1 ⊢)
   (repeat' (first|refine ctQ rfl ?_|((first|refine rgQ mxQ ?_|refine cdQ ?_|(refine AD.upd c0 ?_)|(refine AD.upd c1 ?_)|refine AD.det (f1) ?_|refine AD.det (f2) ?_|refine AD.det (f3) ?_|refine AD.det (ra) ?_|refine AD.det (rr) ?_|refine AD.det (ff) ?_)<;>try simp -implicitDefEqProofs only [b0',hat,hk1,hk2,go_sem])|fail))
   refine Fh.own rfl (by decide) (fun tk htk=>?_);simp -implicitDefEqProofs only [go_sem]
   have hl1:=RS.dF (e:=75) (z:=3) (rows:=[[.int .i64 k0,.str n0,.sl (a0.map TE.enc)]]) htk
   generalize hτ:(σ.AH i (rsA L s2)).CO tk=τ at hl1 ⊢
   have e2:=CT h2 [44] τ hl1.blk
   have h3:=h2.run (RM.A9 [44])
   have l3:=RM.le (RM.A9 [44]) h2.wf
   have hl2:=hl1.step ((RM.A9 [44]).run s2).2
   generalize ((RM.A9 [44]).run s2).2=s3 at e2 h3 l3 hl2 ⊢
   have e3:=(Tb i L n ih).pc _ s3 trivial h3 (by omega) hl2.blk
   rw [AN] at e3
   have h4:=h3.run (BX (FR n) [44])
   have l4:=RM.le (BX (FR n) [44]) h3.wf
   have n4:=VM (read:=FR n) (t:=[44]) h3.wf
   have q2:=h0.suf.length_le
   have q3:=h0.len
   have hl3:=hl1.step ((BX (FR n) [44]).run s3).2
   generalize (BX (FR n) [44]).run s3=y at e3 h4 l4 n4 hl3 ⊢
   obtain ⟨x3,s4⟩:=y
   simp only at e3 h4 l4 n4 hl3 ⊢
   (repeat' (first|refine ctQ rfl ?_|((first|refine rgQ mxQ ?_|refine cdQ ?_|(refine AD.upd e2 ?_)|(refine AD.upd e3 ?_))<;>try simp -implicitDefEqProofs only [go_sem])|fail))
   refine hl3.tok rfl (Ji _ _ TE.vH) (by simp only [AJ,AG,AI];omega) (by decide) (fun v2 τ2 ho=>?_);simp -implicitDefEqProofs only [ho.own.cells,ho.own.cell,if_true,go_sem]
   have e4:=CT h4 [41] τ2 ho.blk
   have ho2:=ho.step ((RM.A9 [41]).run s4).2
   (repeat' (first|refine ctQ rfl ?_|((first|refine rgQ mxQ ?_|refine cdQ ?_|(refine AD.upd e4 ?_)|(refine Run.A2 B4 ho2.le ?_))<;>try simp -implicitDefEqProofs only [ho.own.cell,ho.own.plain,if_true,AB,go_sem])|fail))
end Go.Ab
namespace Go.Ab
open Go.Proofs
theorem yB {n:Int} (h0: -9223372036854775808≤n) (h1:n≤9223372036854775807):IntKind.i64.wrap n=n:=by
 rcases Int.le_total 0 n with h|h
 · exact BF h h1
 · unfold IntKind.wrap
   simp only [IntKind.signed,IntKind.bits]
   rcases Int.lt_or_le n 0 with h2|h2
   · have e:n % (2 ^ 64:Int)=n+18446744073709551616:=by omega
     simp only [e]
     rw [if_pos (by simp;omega)]
     omega
   · have:n=0:=by omega
     subst this;rfl
theorem neg_num {x:Int} (h:0≤x∧x≤1000000):IntKind.i64.wrap (0 - x)=-x:=by rw [yB (by omega) (by omega)];omega
theorem vW {L:List Tok} {s:PSt} (hN:NOk L) (hs:POk L s):0≤(JH.run s).1∧(JH.run s).1≤1000000:=gE (kK hN hs)
theorem AA2 (i:Nat) {L:List Tok} (hN:NOk L) (n:Nat):PC 212 [.gp i 0] i L n WD exA:=by
 intro σ s0 g0 h0 l0 b0
 refine Sr (by simp) ?_
 rw [Ar]
 simp only [WD,run_bind,run_pure,exA,exN,Ex.AS,AB,AE]
 (have c0:=(DP i L n [40] (by decide)) σ s0 g0 h0 (by omega) b0;have h1:=h0.run (PM.exp [40] (by decide));have l1:=PM.le (PM.exp [40] (by decide)) h0.wf;generalize (PM.exp [40] (by decide)).run s0=y at c0 h1 l1 ⊢;obtain ⟨x0,s1⟩:=y;simp only at c0 h1 l1 ⊢;have b1:(σ.AH i (psA L s1)).blk i=some (psA L s1):=AX)
 cases t1:s1.hd.text==[45] with
 |true=>
  have hr:(Bf [45] (JH.map fun n=>-n) JH).run s1=(-(JH.run s1.adv).1,(JH.run s1.adv).2):=if_pos t1
  rw [hr]
  simp only
  (have c1:=DO h1 [45] (σ.AH i (psA L s1)) b1 t1;rw [AN] at c1;have h2:=h1.adv (t:=[45]) (by decide) t1;have l2:=BW h1.wf;generalize s1.adv=s2 at c1 h2 l2 ⊢;have b2:(σ.AH i (psA L s2)).blk i=some (psA L s2):=by rw [AZ,if_pos rfl])
  have hk:=vW hN h2
  (have c2:=(gF i hN n) (σ.AH i (psA L s2)) s2 g0 h2 (by omega) b2;rw [AN] at c2;have h3:=h2.run (JH);have l3:=PM.le (JH) h2.wf;generalize (JH).run s2=y at c2 h3 l3 hk ⊢;obtain ⟨x2,s3⟩:=y;simp only at c2 h3 l3 hk ⊢;have b3:(σ.AH i (psA L s3)).blk i=some (psA L s3):=AX)
  have hng:=neg_num hk
  (have c3:=(DP i L n [41] (by decide)) (σ.AH i (psA L s3)) s3 g0 h3 (by omega) b3;rw [AN] at c3;have h4:=h3.run (PM.exp [41] (by decide));have l4:=PM.le (PM.exp [41] (by decide)) h3.wf;generalize (PM.exp [41] (by decide)).run s3=y at c3 h4 l4 ⊢;obtain ⟨x3,s4⟩:=y;simp only at c3 h4 l4 ⊢;have b4:(σ.AH i (psA L s4)).blk i=some (psA L s4):=AX)
  (repeat' (first|refine ctQ rfl ?_|((first|refine rgQ mxQ ?_|refine cdQ ?_|refine Run.A2 H3 (AK.le_refl _) ?_|(refine AD.upd c0 ?_)|(refine AD.upd c1 ?_)|(refine AD.upd c2 ?_)|(refine AD.upd c3 ?_))<;>try simp -implicitDefEqProofs only [hng,go_sem])|fail))
 |false=>
  have hr:(Bf [45] (JH.map fun n=>-n) JH).run s1=JH.run s1:=if_neg (by rw [t1];decide)
  rw [hr]
  have f1:=DN h1 [45] (σ.AH i (psA L s1)) b1 t1
  (have c1:=(gF i hN n) (σ.AH i (psA L s1)) s1 g0 h1 (by omega) b1;rw [AN] at c1;have h2:=h1.run (JH);have l2:=PM.le (JH) h1.wf;generalize (JH).run s1=y at c1 h2 l2 ⊢;obtain ⟨x1,s2⟩:=y;simp only at c1 h2 l2 ⊢;have b2:(σ.AH i (psA L s2)).blk i=some (psA L s2):=AX)
  (have c2:=(DP i L n [41] (by decide)) (σ.AH i (psA L s2)) s2 g0 h2 (by omega) b2;rw [AN] at c2;have h3:=h2.run (PM.exp [41] (by decide));have l3:=PM.le (PM.exp [41] (by decide)) h2.wf;generalize (PM.exp [41] (by decide)).run s2=y at c2 h3 l3 ⊢;obtain ⟨x2,s3⟩:=y;simp only at c2 h3 l3 ⊢;have b3:(σ.AH i (psA L s3)).blk i=some (psA L s3):=AX)
  (repeat' (first|refine ctQ rfl ?_|((first|refine rgQ mxQ ?_|refine cdQ ?_|refine Run.A2 H3 (AK.le_refl _) ?_|(refine AD.upd c0 ?_)|(refine AD.upd c1 ?_)|(refine AD.upd c2 ?_)|refine AD.det (f1) ?_)<;>try simp -implicitDefEqProofs only [go_sem])|fail))
theorem Ym:Av Tryz.prog 131=true:=by kernel_rfl
theorem Ex.vI (e:Ex):e.enc.length=6:=by cases e;rw [Ex.AS];rfl
theorem ADI (i:Nat) (L:List Tok) (n:Nat) {E:PM Ex} (hE:PC 131 [.gp i 0] i L n E exA):PC 211 [.gp i 0] i L n (jK E) exA:=by
 intro σ s0 g0 h0 l0 b0
 refine Mj (by simp) ?_
 rw [Ar]
 simp only [jK,Hn]
 cases t0:s0.hd.text==[41] with
 |true=>
  simp only [if_true,run_pure,exA,exN,Ex.AS,AB,AE]
  (have c0:=DO h0 [41] σ b0 t0;have h1:=h0.adv (t:=[41]) (by decide) t0;have l1:=BW h0.wf;generalize s0.adv=s1 at c0 h1 l1 ⊢;have b1:(σ.AH i (psA L s1)).blk i=some (psA L s1):=by rw [AZ,if_pos rfl])
  (repeat' (first|refine ctQ rfl ?_|((first|refine rgQ mxQ ?_|refine cdQ ?_|refine Run.A2 CS (AK.le_refl _) ?_|(refine AD.upd c0 ?_))<;>try simp -implicitDefEqProofs only [go_sem])|fail))
 |false=>
  have f0:=DN h0 _ σ b0 t0
  simp only [if_false,AL,run_bind,Hn]
  (have c0:=hE σ s0 g0 h0 (by omega) b0;have h1:=h0.run (E);have l1:=PM.le (E) h0.wf;generalize (E).run s0=y at c0 h1 l1 ⊢;obtain ⟨x0,s1⟩:=y;simp only at c0 h1 l1 ⊢;have b1:(σ.AH i (psA L s1)).blk i=some (psA L s1):=AX;obtain ⟨o0,n0,u0,ns0,ks0,al0⟩:=x0;simp only [exA,Ex.AS,AB,AE] at c0 ⊢)
  cases t1:s1.hd.text==[41] with
  |true=>
   simp only [if_true,run_pure,Ex.AS,AB,AE]
   (have c1:=DO h1 [41] (σ.AH i (psA L s1)) b1 t1;rw [AN] at c1;have h2:=h1.adv (t:=[41]) (by decide) t1;have l2:=BW h1.wf;generalize s1.adv=s2 at c1 h2 l2 ⊢;have b2:(σ.AH i (psA L s2)).blk i=some (psA L s2):=by rw [AZ,if_pos rfl])
   (repeat' (first|refine ctQ rfl ?_|((first|refine rgQ mxQ ?_|refine cdQ ?_|refine Run.A2 CS (AK.le_refl _) ?_|(refine AD.upd c0 ?_)|(refine AD.upd c1 ?_)|refine AD.det (f0) ?_)<;>try simp -implicitDefEqProofs only [go_sem])|fail))
  |false=>
   have f1:=DN h1 _ (σ.AH i (psA L s1)) b1 t1
   simp only [if_false,AL,run_pure,exN,Ex.AS,AB,AE]
   (have c1:=(DP i L n [44] (by decide)) (σ.AH i (psA L s1)) s1 g0 h1 (by omega) b1;rw [AN] at c1;have h2:=h1.run (PM.exp [44] (by decide));have l2:=PM.le (PM.exp [44] (by decide)) h1.wf;generalize (PM.exp [44] (by decide)).run s1=y at c1 h2 l2 ⊢;obtain ⟨x1,s2⟩:=y;simp only at c1 h2 l2 ⊢;have b2:(σ.AH i (psA L s2)).blk i=some (psA L s2):=AX)
   (have d2:=fun tk:Nat=>(G2 i L n Ym hE).pc ((σ.AH i (psA L s2)).CO tk) s2 g0 h2 (by omega) (by rw [Ep];exact b2);have c2:=(G2 i L n Ym hE).pc (σ.AH i (psA L s2)) s2 g0 h2 (by omega) b2;rw [AN] at c2;have h3:=h2.run (listed E);have l3:=PM.le (listed E) h2.wf;have n2:=Q1 (read:=E) h2.wf;generalize (listed E).run s2=y at c2 d2 h3 l3 n2 ⊢;obtain ⟨x2,s3⟩:=y;simp only at c2 d2 h3 l3 n2 ⊢;have q2:=h0.suf.length_le;have q2':=h0.len)
   (repeat' (first|refine ctQ rfl ?_|((first|refine rgQ mxQ ?_|refine cdQ ?_|(refine AD.upd c0 ?_)|(refine AD.upd c1 ?_)|refine AD.det (f0) ?_|refine AD.det (f1) ?_)<;>try simp -implicitDefEqProofs only [go_sem])|fail))
   refine Run.Q8 mixed ?_;simp -implicitDefEqProofs only [go_sem]
   refine ⟨?_,?_⟩
   · refine Fh.own rfl (by decide) (fun tk htk=>?_);simp -implicitDefEqProofs only [go_sem]
     refine AD.upd (d2 tk) ?_;simp -implicitDefEqProofs only [go_sem]
     (apply LS.tok (LS.vL htk s3);rfl;exact (Ji _ _ Ex.vI);(simp only [AJ,AG,AI];omega);decide;intro v2 τ2 ho);simp -implicitDefEqProofs only [ho.own.cells,ho.own.cell,if_true,go_sem]
     (repeat' (first|refine ctQ rfl ?_|((first|refine rgQ mxQ ?_|refine cdQ ?_|(refine Run.A2 CS ho.le ?_))<;>try simp -implicitDefEqProofs only [ho.own.plain,if_true,go_sem])|fail))
   · refine AD.upd c2 ?_;simp -implicitDefEqProofs only [go_sem]
     refine Fh.own rfl (by decide) (fun tk htk=>?_);simp -implicitDefEqProofs only [go_sem]
     (apply LS.tok (LS.dF htk);rfl;exact (Ji _ _ Ex.vI);(simp only [AJ,AG,AI];omega);decide;intro v2 τ2 ho);simp -implicitDefEqProofs only [ho.own.cells,ho.own.cell,if_true,go_sem]
     (repeat' (first|refine ctQ rfl ?_|((first|refine rgQ mxQ ?_|refine cdQ ?_|(refine Run.A2 CS ho.le ?_))<;>try simp -implicitDefEqProofs only [ho.own.plain,if_true,go_sem])|fail))
theorem wK (k:Int):prT k≠[]:=by
 unfold prT
 repeat' split
 all_goals simp
def eO (E:PM Ex):Nat→Nat→PM Ex
 |0,_=>.fail (exN 0 0 [])
 |n+1,k=>.acc (prT (k:Int)) (wK (k:Int)) ((UP E (Le (k:Int))).bind fun l=>.pure (exN 14 (k:Int) l)) (eO E n (k+1))
theorem sK (E:PM Ex) (s:PSt):(Bf [110,101,119] ((N2 E).bind fun l=>.pure (exN 14 1 l)) <|
 Bf [103,101,116] ((N2 E).bind fun l=>.pure (exN 14 2 l)) <|
 Bf [115,101,116] ((Zx E).bind fun l=>.pure (exN 14 3 l)) <|
 Bf [108,101,110] ((Jf E).bind fun l=>.pure (exN 14 4 l)) <|
 Bf [114,101,102] ((Jf E).bind fun l=>.pure (exN 14 5 l)) <|
 Bf [114,101,97,100] ((Jf E).bind fun l=>.pure (exN 14 6 l)) <|
 Bf [119,114,105,116,101] ((N2 E).bind fun l=>.pure (exN 14 7 l)) <|
 .fail (exN 0 0 [])).run s=(eO E 7 1).run s:=rfl
theorem AAA {k:Nat} (h1:1≤k) (h2:k≤7):wM (k:Int)=prT (k:Int):=by
 have hk:k=1∨k=2∨k=3∨k=4∨k=5∨k=6∨k=7:=by omega
 rcases hk with rfl|rfl|rfl|rfl|rfl|rfl|rfl<;>rfl
theorem jP {k:Nat} (h1:1≤k) (h2:k≤7):1≤Le (k:Int)∧Le (k:Int)≤3:=by
 have hk:k=1∨k=2∨k=3∨k=4∨k=5∨k=6∨k=7:=by omega
 rcases hk with rfl|rfl|rfl|rfl|rfl|rfl|rfl<;>decide
theorem oY {k:Nat} (h:k≤7):decide ((k:Int)≤7)=true:=by simp;omega
theorem ABX {k:Nat} (h:¬k≤7):decide ((k:Int)≤7)=false:=by simp;omega
theorem Xy (k:Nat) (h1:1≤k) (h2:k≤7) (σ:AK):AP Tryz.prog 147 [.d (.int .i64 (k:Int))] σ (fun v σ'=>v= .tup [.d (.str (prT (k:Int))),.d (.int .i64 ((Le (k:Int):Nat):Int))]∧σ'=σ):=by
 have:=WG (k:Int) σ
 rwa [AAA h1 h2] at this
set_option maxHeartbeats 4000000 in
theorem AAB (i:Nat) {L:List Tok} (hN:NOk L) (n:Nat) {E:PM Ex} (hE:PC 131 [.gp i 0] i L n E exA):PC 207 [.gp i 0] i L (n+1) (Xv E) exA:=by
 intro σ s0 g0 h0 l0 b0
 refine So (by simp) ?_
 rw [Ar]
 have hpk:=Q5 h0 σ b0
 rw [Xv]
 simp only [j7,Hn]
 cases hk3:s0.hd.kind==3 with
 |true=>
  simp only [if_true,run_bind,run_pure,exA,exN,Ex.AS,AB,AE]
  (have c0:=(gF i hN (n+1)) σ s0 g0 h0 (by omega) b0;have h1:=h0.run (JH);have l1:=PM.le (JH) h0.wf;generalize (JH).run s0=y at c0 h1 l1 ⊢;obtain ⟨x0,s1⟩:=y;simp only at c0 h1 l1 ⊢;have b1:(σ.AH i (psA L s1)).blk i=some (psA L s1):=AX)
  (repeat' (first|refine ctQ rfl ?_|((first|refine rgQ mxQ ?_|refine cdQ ?_|refine Run.A2 BP (AK.le_refl _) ?_|(refine AD.upd c0 ?_)|refine AD.det (hpk) ?_)<;>try simp -implicitDefEqProofs only [hk3,go_sem])|fail))
 |false=>
 cases hk1:s0.hd.kind==1 with
 |true=>
  simp only [if_true,if_false,AL,run_bind,run_pure,exA,exN,Ex.AS,AB,AE]
  (have c0:=(Q3 i L (n+1)) σ s0 g0 h0 (by omega) b0;have h1:=h0.run (E3);have l1:=PM.le (E3) h0.wf;generalize (E3).run s0=y at c0 h1 l1 ⊢;obtain ⟨x0,s1⟩:=y;simp only at c0 h1 l1 ⊢;have b1:(σ.AH i (psA L s1)).blk i=some (psA L s1):=AX)
  (repeat' (first|refine ctQ rfl ?_|((first|refine rgQ mxQ ?_|refine cdQ ?_|refine Run.A2 BP (AK.le_refl _) ?_|(refine AD.upd c0 ?_)|refine AD.det (hpk) ?_)<;>try simp -implicitDefEqProofs only [hk3,hk1,go_sem])|fail))
 |false=>
 cases hk2:s0.hd.kind==2 with
 |true=>
  simp only [if_true,if_false,AL,run_bind,run_pure,exA,exN,Ex.AS,AB,AE]
  (have c0:=(TX i L (n+1)) σ s0 g0 h0 (by omega) b0;have h1:=h0.run (Dx);have l1:=PM.le (Dx) h0.wf;generalize (Dx).run s0=y at c0 h1 l1 ⊢;obtain ⟨x0,s1⟩:=y;simp only at c0 h1 l1 ⊢;have b1:(σ.AH i (psA L s1)).blk i=some (psA L s1):=AX)
  (have c1:=(VD i L n Ym hE).pc (σ.AH i (psA L s1)) s1 g0 h1 (by omega) b1;rw [AN] at c1;have h2:=h1.run (If E);have l2:=PM.le (If E) h1.wf;generalize (If E).run s1=y at c1 h2 l2 ⊢;obtain ⟨x1,s2⟩:=y;simp only at c1 h2 l2 ⊢;have b2:(σ.AH i (psA L s2)).blk i=some (psA L s2):=AX)
  (repeat' (first|refine ctQ rfl ?_|((first|refine rgQ mxQ ?_|refine cdQ ?_|refine Run.A2 BP (AK.le_refl _) ?_|(refine AD.upd c0 ?_)|(refine AD.upd c1 ?_)|refine AD.det (hpk) ?_)<;>try simp -implicitDefEqProofs only [hk3,hk1,hk2,go_sem])|fail))
 |false=>
 simp only [if_false,AL]
 cases t1:s0.hd.text==[45] with
 |true=>
  simp only [if_true,run_bind,run_pure,exA,exN,Ex.AS,AB,AE]
  (have c0:=DO h0 [45] σ b0 t1;have h1:=h0.adv (t:=[45]) (by decide) t1;have l1:=BW h0.wf;generalize s0.adv=s1 at c0 h1 l1 ⊢;have b1:(σ.AH i (psA L s1)).blk i=some (psA L s1):=by rw [AZ,if_pos rfl])
  have hk:=vW hN h1
  (have c1:=(gF i hN n) (σ.AH i (psA L s1)) s1 g0 h1 (by omega) b1;rw [AN] at c1;have h2:=h1.run (JH);have l2:=PM.le (JH) h1.wf;generalize (JH).run s1=y at c1 h2 l2 hk ⊢;obtain ⟨x1,s2⟩:=y;simp only at c1 h2 l2 hk ⊢;have b2:(σ.AH i (psA L s2)).blk i=some (psA L s2):=AX)
  have hng:=neg_num hk
  (repeat' (first|refine ctQ rfl ?_|((first|refine rgQ mxQ ?_|refine cdQ ?_|refine Run.A2 BP (AK.le_refl _) ?_|(refine AD.upd c0 ?_)|(refine AD.upd c1 ?_)|refine AD.det (hpk) ?_)<;>try simp -implicitDefEqProofs only [hk3,hk1,hk2,hng,go_sem])|fail))
 |false=>
 have f1:=DN h0 _ σ b0 t1
 cases t2:s0.hd.text==[116,114,117,101] with
 |true=>
  simp only [if_true,if_false,AL,run_pure,exA,exN,Ex.AS,AB,AE]
  (have c0:=DO h0 [116,114,117,101] σ b0 t2;have h1:=h0.adv (t:=[116,114,117,101]) (by decide) t2;have l1:=BW h0.wf;generalize s0.adv=s1 at c0 h1 l1 ⊢;have b1:(σ.AH i (psA L s1)).blk i=some (psA L s1):=by rw [AZ,if_pos rfl])
  (repeat' (first|refine ctQ rfl ?_|((first|refine rgQ mxQ ?_|refine cdQ ?_|refine Run.A2 BP (AK.le_refl _) ?_|(refine AD.upd c0 ?_)|refine AD.det (hpk) ?_|refine AD.det (f1) ?_)<;>try simp -implicitDefEqProofs only [hk3,hk1,hk2,go_sem])|fail))
 |false=>
 have f2:=DN h0 _ σ b0 t2
 cases t3:s0.hd.text==[102,97,108,115,101] with
 |true=>
  simp only [if_true,if_false,AL,run_pure,exA,exN,Ex.AS,AB,AE]
  (have c0:=DO h0 [102,97,108,115,101] σ b0 t3;have h1:=h0.adv (t:=[102,97,108,115,101]) (by decide) t3;have l1:=BW h0.wf;generalize s0.adv=s1 at c0 h1 l1 ⊢;have b1:(σ.AH i (psA L s1)).blk i=some (psA L s1):=by rw [AZ,if_pos rfl])
  (repeat' (first|refine ctQ rfl ?_|((first|refine rgQ mxQ ?_|refine cdQ ?_|refine Run.A2 BP (AK.le_refl _) ?_|(refine AD.upd c0 ?_)|refine AD.det (hpk) ?_|refine AD.det (f1) ?_|refine AD.det (f2) ?_)<;>try simp -implicitDefEqProofs only [hk3,hk1,hk2,go_sem])|fail))
 |false=>
 have f3:=DN h0 _ σ b0 t3
 cases t4:s0.hd.text==[40] with
 |true=>
  simp only [if_true,if_false,AL]
  (have c0:=DO h0 [40] σ b0 t4;have h1:=h0.adv (t:=[40]) (by decide) t4;have l1:=BW h0.wf;generalize s0.adv=s1 at c0 h1 l1 ⊢;have b1:(σ.AH i (psA L s1)).blk i=some (psA L s1):=by rw [AZ,if_pos rfl])
  (have c1:=(ADI i L n hE) (σ.AH i (psA L s1)) s1 g0 h1 (by omega) b1;rw [AN] at c1;have h2:=h1.run (jK E);have l2:=PM.le (jK E) h1.wf;generalize (jK E).run s1=y at c1 h2 l2 ⊢;obtain ⟨x1,s2⟩:=y;simp only at c1 h2 l2 ⊢;have b2:(σ.AH i (psA L s2)).blk i=some (psA L s2):=AX;obtain ⟨o1,n1,u1,ns1,ks1,al1⟩:=x1;simp only [exA,Ex.AS,AB,AE] at c1 ⊢)
  (repeat' (first|refine ctQ rfl ?_|((first|refine rgQ mxQ ?_|refine cdQ ?_|refine Run.A2 BP (AK.le_refl _) ?_|(refine AD.upd c0 ?_)|(refine AD.upd c1 ?_)|refine AD.det (hpk) ?_|refine AD.det (f1) ?_|refine AD.det (f2) ?_|refine AD.det (f3) ?_)<;>try simp -implicitDefEqProofs only [hk3,hk1,hk2,go_sem])|fail))
 |false=>
 have f4:=DN h0 _ σ b0 t4
 cases t5:s0.hd.text==[116,105,99,107] with
 |true=>
  simp only [if_true,if_false,AL]
  (have c0:=DO h0 [116,105,99,107] σ b0 t5;have h1:=h0.adv (t:=[116,105,99,107]) (by decide) t5;have l1:=BW h0.wf;generalize s0.adv=s1 at c0 h1 l1 ⊢;have b1:(σ.AH i (psA L s1)).blk i=some (psA L s1):=by rw [AZ,if_pos rfl])
  (have c1:=(AA2 i hN n) (σ.AH i (psA L s1)) s1 g0 h1 (by omega) b1;rw [AN] at c1;have h2:=h1.run (WD);have l2:=PM.le (WD) h1.wf;generalize (WD).run s1=y at c1 h2 l2 ⊢;obtain ⟨x1,s2⟩:=y;simp only at c1 h2 l2 ⊢;have b2:(σ.AH i (psA L s2)).blk i=some (psA L s2):=AX;obtain ⟨o1,n1,u1,ns1,ks1,al1⟩:=x1;simp only [exA,Ex.AS,AB,AE] at c1 ⊢)
  (repeat' (first|refine ctQ rfl ?_|((first|refine rgQ mxQ ?_|refine cdQ ?_|refine Run.A2 BP (AK.le_refl _) ?_|(refine AD.upd c0 ?_)|(refine AD.upd c1 ?_)|refine AD.det (hpk) ?_|refine AD.det (f1) ?_|refine AD.det (f2) ?_|refine AD.det (f3) ?_|refine AD.det (f4) ?_)<;>try simp -implicitDefEqProofs only [hk3,hk1,hk2,go_sem])|fail))
 |false=>
 have f5:=DN h0 _ σ b0 t5
 cases t6:s0.hd.text==[114,97,105,115,101] with
 |true=>
  simp only [if_true,if_false,AL,run_bind,run_pure,ACL,exA,exN,Ex.AS,AB,AE]
  (have c0:=DO h0 [114,97,105,115,101] σ b0 t6;have h1:=h0.adv (t:=[114,97,105,115,101]) (by decide) t6;have l1:=BW h0.wf;generalize s0.adv=s1 at c0 h1 l1 ⊢;have b1:(σ.AH i (psA L s1)).blk i=some (psA L s1):=by rw [AZ,if_pos rfl])
  (have c1:=(oL i L n hE 1 (by omega)) (σ.AH i (psA L s1)) s1 g0 h1 (by omega) b1;rw [AN] at c1;have h2:=h1.run (UP E 1);have l2:=PM.le (UP E 1) h1.wf;generalize (UP E 1).run s1=y at c1 h2 l2 ⊢;obtain ⟨x1,s2⟩:=y;simp only at c1 h2 l2 ⊢;have b2:(σ.AH i (psA L s2)).blk i=some (psA L s2):=AX)
  (repeat' (first|refine ctQ rfl ?_|((first|refine rgQ mxQ ?_|refine cdQ ?_|refine Run.A2 BP (AK.le_refl _) ?_|(refine AD.upd c0 ?_)|(refine AD.upd c1 ?_)|refine AD.det (hpk) ?_|refine AD.det (f1) ?_|refine AD.det (f2) ?_|refine AD.det (f3) ?_|refine AD.det (f4) ?_|refine AD.det (f5) ?_)<;>try simp -implicitDefEqProofs only [hk3,hk1,hk2,go_sem])|fail))
 |false=>
 have f6:=DN h0 _ σ b0 t6
 simp only [if_false,AL]
 have hpl:=sK E s0
 simp only [Hn] at hpl
 rw [hpl]
 clear hpl
 (repeat' (first|refine ctQ rfl ?_|((first|refine rgQ mxQ ?_|refine cdQ ?_|refine AD.det (hpk) ?_|refine AD.det (f1) ?_|refine AD.det (f2) ?_|refine AD.det (f3) ?_|refine AD.det (f4) ?_|refine AD.det (f5) ?_|refine AD.det (f6) ?_)<;>try simp -implicitDefEqProofs only [hk3,hk1,hk2,go_sem])|fail))
 refine Run.BU ?_
 refine Run.BZ ((fun (a0:AV) (a2:AV)=>fun (k:Nat)=>put 0 a0 (put 2 a2 (put 5 (.d (.int .i64 (k:Nat))) U))) _ _) (fun _=>Aq 2 [.d (.int .i64 0),.d (.str []),.d (.int .i64 0),.AO,.AO,.AO] Ab.E) (fun _=>σ) (fun k=>1≤k∧k≤8∧(eO E (8 - k) k).run s0=(eO E 7 1).run s0) (fun k=>8 - k) ?_ 1 ⟨by omega,by omega,rfl⟩
 rintro k ⟨q1,q2,q3⟩ ih
 by_cases hk7:k≤7
 · obtain ⟨m,hm⟩:∃m,8 - k=m+1:=⟨7 - k,by omega⟩
   have hpr:=Xy k q1 hk7
   have hw:=BV (a:=k) (by omega)
   rw [hm,eO,Hn] at q3
   cases ht:s0.hd.text==prT (k:Int) with
   |true=>
    rw [ht,if_pos rfl] at q3
    rw [← q3]
    have h13:=jP q1 hk7
    simp only [run_bind,run_pure,exA,exN,Ex.AS,AB,AE]
    have c0:=DO h0 (prT (k:Int)) σ b0 ht
    have h1:=h0.adv (wK (k:Int)) ht
    have l1:=BW h0.wf
    generalize s0.adv=s1 at c0 h1 l1 ⊢
    have b1:(σ.AH i (psA L s1)).blk i=some (psA L s1):=AX
    (have c1:=(oL i L n hE (Le (k:Int)) h13) (σ.AH i (psA L s1)) s1 g0 h1 (by omega) b1;rw [AN] at c1;have h2:=h1.run (UP E (Le (k:Int)));have l2:=PM.le (UP E (Le (k:Int))) h1.wf;generalize (UP E (Le (k:Int))).run s1=y at c1 h2 l2 ⊢;obtain ⟨x1,s2⟩:=y;simp only at c1 h2 l2 ⊢;have b2:(σ.AH i (psA L s2)).blk i=some (psA L s2):=AX)
    (repeat' (first|refine ctQ rfl ?_|((first|refine rgQ mxQ ?_|refine cdQ ?_|refine Run.A2 BP (AK.le_refl _) ?_|(refine AD.upd c0 ?_)|(refine AD.upd c1 ?_)|refine AD.det (hpr _) ?_)<;>try simp -implicitDefEqProofs only [oY hk7,go_sem])|fail))
   |false=>
    rw [ht,if_neg (by decide)] at q3
    have f7:=DN h0 _ σ b0 ht
    (repeat' (first|refine ctQ rfl ?_|((first|refine rgQ mxQ ?_|refine cdQ ?_|refine AD.det (hpr _) ?_|refine AD.det (f7) ?_)<;>try simp -implicitDefEqProofs only [oY hk7,hw,go_sem])|fail))
    exact ih (k+1) ⟨by omega,by omega,by rw [show 8 - (k+1)=m by omega];exact q3⟩ (by omega)
 · have:k=8:=by omega
   subst this
   rw [← q3]
   have hp0:(eO E (8 - 8) 8).run s0=(exN 0 0 [],s0.fail):=rfl
   rw [hp0]
   simp only [exA,exN,Ex.AS,AB,AE]
   (repeat' (first|refine ctQ rfl ?_|((first|refine rgQ mxQ ?_|refine cdQ ?_|refine Run.A2 BP (AK.le_refl _) ?_|(refine AD.upd (Vj h0 σ b0) ?_))<;>try simp -implicitDefEqProofs only [ABX hk7,go_sem])|fail))
end Go.Ab
