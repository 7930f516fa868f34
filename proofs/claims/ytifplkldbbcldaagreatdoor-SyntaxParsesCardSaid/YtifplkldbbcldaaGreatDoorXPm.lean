/- Parse of the program. The reference's Parse. The printer: text, bind, types. The compact codes of the functions of this seat, computed out of the translation. Conditions: none. -/
import Derived.Test.YtifplkldbbcldaaGreatDoorProg
import Derived.KernelRfl
import Derived.Test.YtifplkldbbcldaaGreatDoorXUj
set_option linter.unusedSimpArgs false
set_option linter.unusedVariables false
set_option maxRecDepth 4000
set_option maxHeartbeats 8000000
open List renaming suffix_refl→Lx,map_cons→AB,map_nil→AE,length_pos_iff→A5,length_map→AJ,length_cons→AG,length_nil→AI,length_append→AA,map_append→Ax,nil_append→A6,all_eq_true→A7,append_assoc→AY,take_left→Kt
open Nat renaming le_trans→Ay,le_refl→A4,add_assoc→NB,zero_add→Bd
open Bool renaming false_eq_true→AL,and_eq_true→AR
open Option.some renaming inj→DK
namespace Go.Ab
open Go.Proofs
def Y0 (r:Pg×Nat×Int):AV:= .tup [pgA r.1,.d (.int .i64 ((r.2.1:Nat):Int)),.d (.int .i64 r.2.2)]
theorem AFB (L:List Tok):[AV.d (.sl (L.map Tok.enc)),.d (.int .i64 0),.d (.bool false),.d (.int .i64 0)]=psA L ⟨L,false,0⟩:=by
 unfold psA Pv;simp
theorem oZ {σ:AK} {j:Nat} (h:σ.blk j=none) (cs:List AV):σ.le (σ.AH j cs):=Vv (AK.le_refl σ) h cs
theorem R6 (src:Str) (σ:AK) (g0:ZG σ):AP Tryz.prog 12 [.d (.str src)] σ (fun v σ'=>v=Y0 (Ew src)∧σ'=σ):=by
 refine Zl (by simp) ?_
 rw [Ar]
 have hsp:=TU src σ
 by_cases he:(Au src).2.2=0
 · obtain ⟨hw,ho⟩:=bL he
   have hN:=eZ he
   have hne:((Au src).2.2 != 0)=false:=by rw [he];rfl
   rw [VF he]
   have hprog:=fun (j:Nat) (hj:σ.blk j=none)=>nD j hN (σ.AH j (psA (Au src).1 ⟨(Au src).1,false,0⟩)) ⟨(Au src).1,false,0⟩ g0 ⟨hw,Lx _,ho.1⟩ (by have:=Bo;have:=ho.1;simp only;omega) AX
   have hsm:=Xz (p:=0) hw ho.1
   simp only [Gy] at hsp
   generalize (Au src).1=L at hsp hw ho hN hprog hsm ⊢
   generalize (Au src).2.1=pos at hsp ⊢
   rw [he] at hsp
   generalize Lf.run ⟨L,false,0⟩=y at hprog hsm ⊢
   obtain ⟨p,s1⟩:=y
   simp only at hprog hsm
   simp only [AN] at hprog
   obtain ⟨ds,fs⟩:=p
   simp only [pgA,Pg.enc,AB,AE] at hprog
   have h00:((0:Int) != 0)=false:=rfl
   (repeat' (first|refine ctQ rfl ?_|((first|refine rgQ mxQ ?_|refine cdQ ?_|refine AD.det (hsp) ?_)<;>try simp -implicitDefEqProofs only [h00,go_sem])|fail))
   intro j hj
   have hle:=oZ hj (psA L s1)
   have hb:(σ.AH j (psA L s1)).blk j=some (psA L s1):=AX
   have hst:psA L s1=[.d (Pv L),.d (.int .i64 ((L.length - s1.r.length:Nat):Int)),.d (.bool s1.f),.d (.int .i64 ((s1.p:Nat):Int))]:=rfl
   rw [AFB]
   cases hf:s1.f with
   |true=>
    rw [hf] at hst
    have hfin:rA (⟨ds,fs⟩,s1)=(⟨[],[]⟩,s1.p,2):=if_pos hf
    rw [hfin]
    simp only [Y0,pgA,Pg.enc,AB,AE]
    (repeat' (first|refine ctQ rfl ?_|((first|refine rgQ mxQ ?_|refine cdQ ?_|(refine AD.upd (hprog j hj) ?_))<;>try simp -implicitDefEqProofs only [hst,go_sem])|fail))
    rw [← hst]
    refine Run.Q8 mixed ?_;simp -implicitDefEqProofs only [hst,go_sem]
    rw [← hst]
    (repeat' (first|refine ctQ rfl ?_|((first|refine rgQ mxQ ?_|refine cdQ ?_|(refine Run.A2 HU hle ?_))<;>try simp -implicitDefEqProofs only [go_sem])|fail))
   |false=>
    rw [hf] at hst
    have hV:=R7 ⟨ds,fs⟩ (σ.AH j (psA L s1)) (fun d hd c hc t ht=>Ay (hsm hf d hd c hc t ht) (by omega))
    simp only [pgA,Pg.enc,AB,AE] at hV
    have hfin:rA (⟨ds,fs⟩,s1)=if DM ⟨ds,fs⟩ then (⟨ds,fs⟩,0,0) else (⟨[],[]⟩,0,9):=if_neg (by rw [hf];decide)
    rw [hfin]
    cases hv:DM ⟨ds,fs⟩ with
    |true=>
     rw [hv] at hV
     simp only [if_true,Y0,pgA,Pg.enc,AB,AE]
     (repeat' (first|refine ctQ rfl ?_|((first|refine rgQ mxQ ?_|refine cdQ ?_|(refine AD.upd (hprog j hj) ?_))<;>try simp -implicitDefEqProofs only [hst,go_sem])|fail))
     rw [← hst]
     (repeat' (first|refine ctQ rfl ?_|((first|refine rgQ mxQ ?_|refine cdQ ?_|(refine Run.A2 HU hle ?_)|refine AD.det (hV) ?_)<;>try simp -implicitDefEqProofs only [go_sem])|fail))
     rfl
    |false=>
     rw [hv] at hV
     simp only [if_false,AL,Y0,pgA,Pg.enc,AB,AE]
     (repeat' (first|refine ctQ rfl ?_|((first|refine rgQ mxQ ?_|refine cdQ ?_|(refine AD.upd (hprog j hj) ?_))<;>try simp -implicitDefEqProofs only [hst,go_sem])|fail))
     rw [← hst]
     (repeat' (first|refine ctQ rfl ?_|((first|refine rgQ mxQ ?_|refine cdQ ?_|(refine Run.A2 HU hle ?_)|refine AD.det (hV) ?_)<;>try simp -implicitDefEqProofs only [go_sem])|fail))
     rfl
 · have hne:((Au src).2.2 != 0)=true:=by simpa using he
   have hp:Ew src=(⟨[],[]⟩,(Au src).2.1,(Au src).2.2):=if_pos he
   rw [hp]
   simp only [Gy] at hsp
   simp only [Y0,pgA,Pg.enc,AB,AE]
   (repeat' (first|refine ctQ rfl ?_|((first|refine rgQ mxQ ?_|refine cdQ ?_|refine Run.A2 HU (AK.le_refl _) ?_|refine AD.det (hsp) ?_)<;>try simp -implicitDefEqProofs only [hne,go_sem])|fail))
end Go.Ab
namespace Go.Ab
open Go.Proofs
def rmu (s:RSt):Nat:=s.r.length+(if s.b then 0 else 1)
theorem nL {q:Nat} {ds:List DE} {fs:List FE} {s:RSt} (h:s.b=true):(N8 q ds fs).run s=(⟨ds,fs⟩,s):=by
 cases q with
 |zero=>rfl
 |succ q=>rw [N8];exact if_pos h
theorem Run.wB {cx:Cx} {KK:AV→AK→Prop} {k:List CI} {F:Fm} {σ1 τ2:AK} {c2:List AV} {v w:AV} {ds:List DE} {fs:List FE} (hv:v.plain= .d (.sl (ds.map DE.enc))) (hw:w.plain= .d (.sl (fs.map FE.enc))) (hle:σ1.le τ2)
 (h:Run cx KK k F (Aq 2 c2 (Aq 9 [.d (.sl (ds.map DE.enc)),.d (.sl (fs.map FE.enc))] Ab.E)) σ1):
 Run cx KK k F (Aq 2 c2 (Aq 9 [v,w] Ab.E)) τ2:=by
 refine Run.bZ (σ':=σ1) (fun _=>.inl rfl) (fun _ _ h=>h) hle ?_
 refine Run.AE2 (fun q' cs' hq=>?_) h
 by_cases e2:q'=2
 · subst e2
   exact ⟨cs',hq,Mix.refl _⟩
 · by_cases e9:q'=9
   · subst e9
     refine ⟨_,rfl,?_⟩
     have:cs'=[.d (.sl (ds.map DE.enc)),.d (.sl (fs.map FE.enc))]:=(DK hq).symm
     rw [this,← hv,← hw]
     exact .pl v (.pl w .nil)
   · simp [Aq,e2,e9,Ab.E] at hq
theorem AFC (L:List Tok):[AV.d (.sl (L.map Tok.enc)),.d (.int .i64 0),.d (.bool false)]=rsA L ⟨L,false⟩:=by
 unfold rsA Pv;simp
theorem w7 (Q:AV→AK→Prop) (rest:List CI) (i:Nat) {L:List Tok} (hN:NOk L) (σ:AK) (h0:ROk L ⟨L,false⟩)
 (hfin:Run G5 Q rest (put 2 (.lp 2 0) (put 8 (.gp i 0) (put 9 (.lp 9 0) (put 43 (.d (.bool false)) U)))) (Aq 2 [.AO,.AO] (Aq 9 [.d (.sl ((H8.run ⟨L,false⟩).1.data.map DE.enc)),.d (.sl ((H8.run ⟨L,false⟩).1.Zc.map FE.enc))] Ab.E)) (σ.AH i (rsA L (H8.run ⟨L,false⟩).2))):
 Run G5 Q (.again UU::.blk 0::rest) (put 2 (.lp 2 0) (put 8 (.gp i 0) (put 9 (.lp 9 0) U))) (Aq 2 [.AO,.AO] (Aq 9 [.AO,.AO] Ab.E)) (σ.AH i (rsA L ⟨L,false⟩)):=by
 have hf0:=Bo
 have hl1:=h0.len
 have hdel:=Z6 σ i (rsA L ⟨L,false⟩)
 refine Run.BZ (α:=RSt×List DE×List FE×Nat×AV×AV×AK) (fun _=>put 2 (.lp 2 0) (put 8 (.gp i 0) (put 9 (.lp 9 0) U))) (fun y=>Aq 2 [.AO,.AO] (Aq 9 [y.2.2.2.2.1,y.2.2.2.2.2.1] Ab.E)) (fun y=>y.2.2.2.2.2.2)
  (fun y=>ROk L y.1∧rmu y.1≤y.2.2.2.1+1∧y.2.1.length+y.2.2.1.length+rmu y.1≤17001∧Cg (σ.DB i) 61 3 (y.2.1.map DE.enc) y.2.2.2.2.1 y.2.2.2.2.2.2∧Cg (σ.DB i) 66 8 (y.2.2.1.map FE.enc) y.2.2.2.2.2.1 y.2.2.2.2.2.2∧Xe y.2.2.2.2.1 y.2.2.2.2.2.1∧y.2.2.2.2.2.2.blk i=some (rsA L y.1)∧(N8 y.2.2.2.1 y.2.1 y.2.2.1).run y.1=H8.run ⟨L,false⟩) (fun y=>rmu y.1) ?_ (⟨L,false⟩,[],[],Af,.AO,.AO,_)
  ⟨h0,by simp [rmu];omega,by simp [rmu];omega,Cg.mono (Cg.nil _ _ _) hdel,Cg.mono (Cg.nil _ _ _) hdel,ZQ _,by simp [AZ],rfl⟩
 rintro ⟨s2,ds,fs,q,vd,vf,τ⟩ ⟨p1,p2,p3,p4,p5,p6,p7,p8⟩ ih
 simp only at p1 p2 p3 p4 p5 p6 p7 p8
 have hle:=(RS.mk p4 p7:RS σ i L s2 _ _ _ _ _).le
 have hr1:=A5.2 p1.wf.ne
 have hat:=p1.at
 have p1l:=p1.suf.length_le
 cases hbad:s2.b with
 |true=>
  rw [nL hbad] at p8
  rw [← p8] at hfin
  simp only at hfin
  have b0':=Jh hbad p7
  have hb0:(σ.AH i (rsA L s2)).blk i=some [.d (.sl (L.map Tok.enc)),.d (.int .i64 ((L.length - s2.r.length:Nat):Int)),.d (.bool true)]:=Jh hbad AX
  (repeat' (first|refine ctQ rfl ?_|((first|refine rgQ mxQ ?_|refine cdQ ?_)<;>try simp -implicitDefEqProofs only [b0',go_sem])|fail))
  exact Run.wB p4.plain p5.plain hle hfin
 |false=>
 have b0':=Jh hbad p7
 simp only [rmu,hbad,AL,if_false] at p2 p3
 obtain ⟨q,rfl⟩:∃m,q=m+1:=⟨q - 1,by omega⟩
 rw [N8] at p8
 simp only [WL,XP,H9,BD,BK,hbad,if_false,AL] at p8
 cases hk:s2.hd.kind==6 with
 |true=>
  rw [hk,if_pos rfl] at p8
  rw [← p8] at hfin
  simp only at hfin
  have hne:(s2.hd.kind != 6)=false:=by unfold bne;rw [hk];rfl
  (repeat' (first|refine ctQ rfl ?_|((first|refine rgQ mxQ ?_|refine cdQ ?_)<;>try simp -implicitDefEqProofs only [b0',hat,hne,go_sem])|fail))
  exact Run.wB p4.plain p5.plain hle hfin
 |false=>
 have hne:(s2.hd.kind != 6)=true:=by unfold bne;rw [hk];rfl
 rw [hk,if_neg (by decide)] at p8
 cases t1:s2.is [100,97,116,97] with
 |true=>
  rw [t1,if_pos rfl] at p8
  have c1:=CU p1 _ τ p7 t1
  have h3:=p1.adv trivial t1
  have l3:=Am p1.wf
  have hb3:s2.adv.b=s2.b:=rfl
  generalize s2.adv=s3 at c1 h3 l3 p8 hb3
  have c2:=wX i L (τ.AH i (rsA L s3)) s3 trivial h3 (by omega) AX
  rw [AN] at c2
  have h4:=h3.run aK
  have l4:=RM.le aK h3.wf
  generalize aK.run s3=y at c2 h4 l4 p8
  obtain ⟨d,s4⟩:=y
  simp only at c2 h4 l4 p8
  obtain ⟨dn,dv,dc⟩:=d
  simp only [deA,DE.enc,AB,AE] at c2
  have q4:=p4.Yg (Gc σ i) (rsA L s4)
  have q5:=p5.Yg (Gc σ i) (rsA L s4)
  have hmu:rmu s4≤s4.r.length+1:=by unfold rmu;split<;>omega
  (repeat' (first|refine ctQ rfl ?_|((first|refine rgQ mxQ ?_|refine cdQ ?_|(refine AD.upd c1 ?_)|(refine AD.upd c2 ?_))<;>try simp -implicitDefEqProofs only [b0',hat,hne,p4.cell,if_true,go_sem])|fail))
  (apply JJ.z7 (cx:=G5) q4;rfl;simp;(simp only [AJ,AG,AI];omega);decide;intro v2 τ2 ho hbk hkp)
  obtain ⟨r5,r6⟩:=hkp _ _ _ _ q5 p6
  simp -implicitDefEqProofs only [ho.cells,ho.cell,if_true,go_sem]
  (repeat' (first|refine ctQ rfl ?_|((first|refine rgQ mxQ ?_|refine cdQ ?_)<;>try simp -implicitDefEqProofs only [ho.w4,go_sem])|fail))
  refine ih (s4,ds++[⟨dn,dv,dc⟩],fs,q,v2,vf,τ2) ⟨h4,by simp only;omega,by simp only [AA,AG,AI];omega,?_,r5,r6,by simp [hbk,AZ],p8⟩ (by simp only [rmu,hbad,AL,if_false] at hmu ⊢;omega)
  simp only [Ax,AB,AE,DE.enc]
  exact ho
 |false=>
  have f1:=CN p1 _ τ p7 t1
  rw [t1,if_neg (by decide)] at p8
  have hmu2:rmu ((RM.A9 [102,117,110]).run s2).2≤s2.r.length:=by
   show rmu (if s2.is [102,117,110] then ((),s2.adv) else ((),(⟨s2.r,true⟩:RSt))).2≤_
   have:=Am p1.wf
   split
   · simp only [rmu];split<;>omega
   · simp [rmu]
  have e1:=CT p1 [102,117,110] τ p7
  have h3:=p1.run (RM.A9 [102,117,110])
  generalize ((RM.A9 [102,117,110]).run s2).2=s3 at e1 h3 hmu2 p8
  have hal:sQ.run s3=_:=rfl
  conv at hal=>rhs;unfold sQ
  simp only [BD,BK] at hal
  rw [hal] at p8
  clear hal
  have hmus:∀ {α:Type} (m:RM α) (s:RSt),WF s.r→rmu (m.run s).2≤rmu s:=fun m s hw=>by
   have h1:=RM.le m hw
   cases hb:s.b with
   |true=>rw [m.st s hb];exact A4 _
   |false=>simp only [rmu,hb,AL,if_false];split<;>omega
  have bs:∀s,(τ.AH i (rsA L s)).blk i=some (rsA L s):=fun s=>AX
  have hle20:∀ {s:RSt},ROk L s→s.r.length≤Af:=fun h=>by have:=h.suf.length_le;omega
  have e2:=Lh i L Af _ s3 trivial h3 (hle20 h3) (bs s3)
  have h4:=h3.run D9
  have m4:=hmus D9 s3 h3.wf
  rw [AN] at e2
  generalize D9.run s3=y at e2 h4 m4 p8
  obtain ⟨fn,s4⟩:=y
  simp only at e2 h4 m4 p8
  have e3:=(eS i L Af).pc _ s4 trivial h4 (hle20 h4) (bs s4)
  have h5:=h4.run Oc
  have m5:=hmus Oc s4 h4.wf
  rw [AN] at e3
  generalize Oc.run s4=y at e3 h5 m5 p8
  obtain ⟨fp,s5⟩:=y
  simp only at e3 h5 m5 p8
  have e4:=CT h5 [61] _ (bs s5)
  have h6:=h5.run (RM.A9 [61])
  have m6:=hmus (RM.A9 [61]) s5 h5.wf
  rw [AN] at e4
  generalize ((RM.A9 [61]).run s5).2=s6 at e4 h6 m6 p8
  unfold AAN at p8
  have e5:=jW i hN Af _ s6 trivial h6 (hle20 h6) (bs s6)
  have h7:=h6.run (IS Af)
  have m7:=hmus (IS Af) s6 h6.wf
  rw [AN] at e5
  generalize (IS Af).run s6=y at e5 h7 m7 p8
  obtain ⟨fb,s7⟩:=y
  simp only at e5 h7 m7 p8
  have e6:=CT h7 [59] _ (bs s7)
  have h8:=h7.run (RM.A9 [59])
  have m8:=hmus (RM.A9 [59]) s7 h7.wf
  rw [AN] at e6
  generalize ((RM.A9 [59]).run s7).2=s8 at e6 h8 m8 p8
  obtain ⟨o0,n0,u0,ns0,ks0,al0⟩:=fb
  simp only [exA,Ex.AS,AB,AE] at e5
  have q4:=p4.Yg (Gc σ i) (rsA L s8)
  have q5:=p5.Yg (Gc σ i) (rsA L s8)
  (repeat' (first|refine ctQ rfl ?_|((first|refine rgQ mxQ ?_|refine cdQ ?_|(refine AD.upd e1 ?_)|(refine AD.upd e2 ?_)|(refine AD.upd e3 ?_)|(refine AD.upd e4 ?_)|(refine AD.upd e5 ?_)|(refine AD.upd e6 ?_)|refine AD.det (f1) ?_)<;>try simp -implicitDefEqProofs only [b0',hat,hne,p5.cell,if_true,List.take,List.drop,A6,go_sem])|fail))
  (apply JJ.z7 (cx:=G5) q5;rfl;simp;(simp only [AJ,AG,AI];omega);decide;intro v2 τ2 ho hbk hkp)
  obtain ⟨r5,r6⟩:=hkp _ _ _ _ q4 p6.symm
  simp -implicitDefEqProofs only [ho.cells,ho.cell,if_true,go_sem]
  (repeat' (first|refine ctQ rfl ?_|((first|refine rgQ mxQ ?_|refine cdQ ?_)<;>try simp -implicitDefEqProofs only [ho.w4,go_sem])|fail))
  refine ih (s8,ds,fs++[⟨fn,fp,.mk o0 n0 u0 ns0 ks0 al0⟩],q,vd,v2,τ2) ⟨h8,by simp only;omega,by simp only [AA,AG,AI];omega,r5,?_,r6.symm,by simp [hbk,AZ],p8⟩ (by simp only [rmu,hbad,AL,if_false] at hmu2 m4 m5 m6 m7 m8 ⊢;omega)
  simp only [Ax,AB,AE,FE.enc,Ex.AS]
  exact ho
end Go.Ab
namespace Go.Ab
open Go.Proofs
theorem AA1 (i:Nat) (x:Str):WC 80 [.gp i 0,.d (.str x)] i x:=by
 intro σ0 σ s hH hbu hlen
 refine Rr (by simp) ?_
 rw [BH]
 (repeat' (first|refine ctQ rfl ?_|((first|refine rgQ mxQ ?_|refine cdQ ?_|(refine AD.mk rfl (A0 x hbu hlen) ?_;rintro _ σ1 ⟨rfl,hb1⟩))<;>try simp -implicitDefEqProofs only [go_sem])|fail))
 exact Run.fin KW rfl (fun _ _ h=>h) (AK.le_refl _) ⟨rfl,hb1⟩
theorem iC (i:Nat) (x:Str):WC 140 [.gp i 0,.d (.str x)] i (shown x):=by
 intro σ0 σ s hH hbu hlen
 refine Rl (by simp) ?_
 rw [BH]
 by_cases hx:x=[]
 · subst hx
   rw [shown,if_pos rfl] at hlen ⊢
   (repeat' (first|refine ctQ rfl ?_|((first|refine rgQ mxQ ?_|refine cdQ ?_|(refine AD.mk rfl (A0 [95] hbu hlen) ?_;rintro _ σ1 ⟨rfl,hb1⟩))<;>try simp -implicitDefEqProofs only [go_sem])|fail))
   exact Run.fin Gx rfl (fun _ _ h=>h) (AK.le_refl _) ⟨rfl,hb1⟩
 · rw [shown,if_neg hx] at hlen ⊢
   have he:(x==([]:Str))=false:=by cases x with|nil=>exact absurd rfl hx|cons a l=>rfl
   (repeat' (first|refine ctQ rfl ?_|((first|refine rgQ mxQ ?_|refine cdQ ?_|(refine AD.mk rfl (A0 x hbu hlen) ?_;rintro _ σ1 ⟨rfl,hb1⟩))<;>try simp -implicitDefEqProofs only [he,go_sem])|fail))
   exact Run.fin Gx rfl (fun _ _ h=>h) (AK.le_refl _) ⟨rfl,hb1⟩
set_option maxHeartbeats 2000000 in
theorem xW (i:Nat):∀(d:Nat) (t:TE),Cq d t=true→WC 84 [.gp i 0,teA t] i (Es t)
 |0,t,h=>by simp [Cq] at h
 |d+1,.mk k n l,h=>by
  rw [Cq,AR,A7] at h
  obtain ⟨hsh,hall⟩:=h
  have hr:∀x∈l,WC 84 ([.gp i 0]++[teA x]++[]) i (Es x):=fun x hx=>xW i d x (hall x hx)
  have hopt:=IQ (H:=fun _=>True) i (first:=[.gp i 0]) (caps:=[]) (by kernel_rfl:Av Tryz.prog 84=true) ⟨rfl,rfl⟩ Es l hr
  intro σ0 σ s hH hbu hlen
  rw [Es,Uv] at hlen ⊢
  refine Ss (by simp) ?_
  rw [BH]
  simp only [teA,TE.AS,AB,AE]
  by_cases h1:k=1
  · subst h1
    simp only [tyN,if_true] at hlen ⊢
    (repeat' (first|refine ctQ rfl ?_|((first|refine rgQ mxQ ?_|refine cdQ ?_|(refine AD.mk rfl (A0 [105,110,116] hbu hlen) ?_;rintro _ σ1 ⟨rfl,hb1⟩))<;>try simp -implicitDefEqProofs only [go_sem])|fail))
    exact Run.fin Bx rfl (fun _ _ h=>h) (AK.le_refl _) ⟨rfl,hb1⟩
  by_cases h2:k=2
  · subst h2
    have e:tyN 2 n (l.map Es)=[98,111,111,108]:=rfl
    rw [e] at hlen ⊢
    (repeat' (first|refine ctQ rfl ?_|((first|refine rgQ mxQ ?_|refine cdQ ?_|(refine AD.mk rfl (A0 [98,111,111,108] hbu hlen) ?_;rintro _ σ1 ⟨rfl,hb1⟩))<;>try simp -implicitDefEqProofs only [go_sem])|(refine ⟨fun h=>?_,fun h=>?_⟩<;>first|(cases h;done)|try simp only [h])|fail))
    exact Run.fin Bx rfl (fun _ _ h=>h) (AK.le_refl _) ⟨rfl,hb1⟩
  by_cases h3:k=3
  · subst h3
    have e:tyN 3 n (l.map Es)=[117,110,105,116]:=rfl
    rw [e] at hlen ⊢
    (repeat' (first|refine ctQ rfl ?_|((first|refine rgQ mxQ ?_|refine cdQ ?_|(refine AD.mk rfl (A0 [117,110,105,116] hbu hlen) ?_;rintro _ σ1 ⟨rfl,hb1⟩))<;>try simp -implicitDefEqProofs only [go_sem])|(refine ⟨fun h=>?_,fun h=>?_⟩<;>first|(cases h;done)|try simp only [h])|fail))
    exact Run.fin Bx rfl (fun _ _ h=>h) (AK.le_refl _) ⟨rfl,hb1⟩
  by_cases h7:k=7
  · subst h7
    have e:tyN 7 n (l.map Es)=[97,114,114,97,121]++Lb (l.map Es):=rfl
    rw [e,AA,← NB,← AA] at hlen
    rw [e,← AY]
    have hl1:s.length+([97,114,114,97,121]).length≤100000000000000:=by rw [AA] at hlen;omega
    (repeat' (first|refine ctQ rfl ?_|((first|refine rgQ mxQ ?_|refine cdQ ?_|(refine AD.mk rfl (A0 [97,114,114,97,121] hbu hl1) ?_;rintro _ σ1 ⟨rfl,hb1⟩))<;>try simp -implicitDefEqProofs only [go_sem])|(refine ⟨fun h=>?_,fun h=>?_⟩<;>first|(cases h;done)|try simp only [h])|fail))
    (repeat' (first|refine ctQ rfl ?_|((first|refine rgQ mxQ ?_|refine cdQ ?_|(refine AD.mk rfl (hopt σ0 σ1 _ hH hb1 hlen) ?_;rintro _ σ2 ⟨rfl,hb2⟩))<;>try simp -implicitDefEqProofs only [go_sem])|fail))
    exact Run.fin Bx rfl (fun _ _ h=>h) (AK.le_refl _) ⟨rfl,hb2⟩
  by_cases h8:k=8
  · subst h8
    have e:tyN 8 n (l.map Es)=[114,101,102]++Lb (l.map Es):=rfl
    rw [e,AA,← NB,← AA] at hlen
    rw [e,← AY]
    have hl1:s.length+([114,101,102]).length≤100000000000000:=by rw [AA] at hlen;omega
    (repeat' (first|refine ctQ rfl ?_|((first|refine rgQ mxQ ?_|refine cdQ ?_|(refine AD.mk rfl (A0 [114,101,102] hbu hl1) ?_;rintro _ σ1 ⟨rfl,hb1⟩))<;>try simp -implicitDefEqProofs only [go_sem])|(refine ⟨fun h=>?_,fun h=>?_⟩<;>first|(cases h;done)|try simp only [h])|fail))
    (repeat' (first|refine ctQ rfl ?_|((first|refine rgQ mxQ ?_|refine cdQ ?_|(refine AD.mk rfl (hopt σ0 σ1 _ hH hb1 hlen) ?_;rintro _ σ2 ⟨rfl,hb2⟩))<;>try simp -implicitDefEqProofs only [go_sem])|fail))
    exact Run.fin Bx rfl (fun _ _ h=>h) (AK.le_refl _) ⟨rfl,hb2⟩
  by_cases h9:k=9
  · subst h9
    have hne:l≠[]:=by
     intro e;subst e
     simp [OT] at hsh
    obtain ⟨l,z,rfl⟩:∃l' z,l=l'++[z]:=⟨l.dropLast,l.getLast hne,(List.dropLast_concat_getLast hne).symm⟩
    have hsep:=Hv (H:=fun _=>True) i (first:=[.gp i 0]) (caps:=[]) (by kernel_rfl:Av Tryz.prog 84=true) ⟨rfl,rfl⟩ [44,32] Es l (fun x hx=>hr x (by simp [hx]))
    have hz:WC 84 [.gp i 0,teA z] i (Es z):=hr z (by simp)
    have e:tyN 9 n ((l++[z]).map Es)=[102,110,40]++(Lib.join (l.map Es) [44,32]++([41,32,45,62,32]++Es z)):=by
     show [102,110]++(L9 ((l++[z]).map Es).dropLast++([32,45,62,32]++((l++[z]).map Es).getLastD []))=_
     rw [Ax,List.map_singleton,List.dropLast_concat,L9,Lc,cms,List.getLastD_concat]
     simp
    rw [e] at hlen ⊢
    simp only [AA,AG,AI] at hlen hsh
    have hl7:l.length≤7:=by
     have:OT 9 n (l.length+1)=(n==[]&&decide (1≤l.length+1)&&decide (l.length+1≤7)):=rfl
     simp only [Bd] at hsh
     rw [this,AR,AR,decide_eq_true_eq,decide_eq_true_eq] at hsh
     omega
    have hw:IntKind.i64.wrap (((l++[z]).length:Nat) - 1:Int)=((l.length:Nat):Int):=by
     rw [AA,List.length_singleton,BF (by omega) (by omega)];omega
    have hzx:(l++[z])[l.length]?=some z:=by simp
    have he:=Bq (enc:=TE.enc) hzx
    have htk:gS ((l++[z]).map TE.enc) none (some (.d (.int .i64 (l.length:Int)))) none 3=some (.d (.sl (l.map TE.enc))):=by
     have h0:gS ((l++[z]).map TE.enc) none (some (.d (.int .i64 (l.length:Int)))) none 3=some (.d (.sl (((l++[z]).map TE.enc).take l.length))):=by simp [gS,YN,Vz]
     rw [h0,← List.map_take,Kt]
    obtain ⟨zk,zn,zl⟩:=z
    simp only [teA,TE.AS,AB,AE] at he hz
    (repeat' (first|refine ctQ rfl ?_|((first|refine rgQ mxQ ?_|refine cdQ ?_|(refine AD.mk rfl (A0 [102,110,40] hbu (by simp only [AG,AI];omega)) ?_;rintro _ σ1 ⟨rfl,hb1⟩))<;>try simp -implicitDefEqProofs only [hw,htk,AJ,go_sem])|(refine ⟨fun h=>?_,fun h=>?_⟩<;>first|(cases h;done)|try simp only [h])|fail))
    (repeat' (first|refine ctQ rfl ?_|((first|refine rgQ mxQ ?_|refine cdQ ?_|(refine AD.mk rfl (hsep σ0 σ1 _ hH hb1 (by simp only [AA,AG,AI];omega)) ?_;rintro _ σ2 ⟨rfl,hb2⟩))<;>try simp -implicitDefEqProofs only [go_sem])|fail))
    (repeat' (first|refine ctQ rfl ?_|((first|refine rgQ mxQ ?_|refine cdQ ?_|(refine AD.mk rfl (A0 [41,32,45,62,32] hb2 (by simp only [AA,AG,AI];omega)) ?_;rintro _ σ3 ⟨rfl,hb3⟩))<;>try simp -implicitDefEqProofs only [he,go_sem])|fail))
    (repeat' (first|refine ctQ rfl ?_|((first|refine rgQ mxQ ?_|refine cdQ ?_|(refine AD.mk rfl (hz σ0 σ3 _ hH hb3 (by simp only [AA,AG,AI];omega)) ?_;rintro _ σ4 ⟨rfl,hb4⟩))<;>try simp -implicitDefEqProofs only [go_sem])|fail))
    simp only [AY] at hb4
    exact Run.fin Bx rfl (fun _ _ h=>h) (AK.le_refl _) ⟨rfl,hb4⟩
  have e:tyN k n (l.map Es)=n++Lb (l.map Es):=by rw [tyN,if_neg h1,if_neg h2,if_neg h3,if_neg h7,if_neg h8,if_neg h9]
  rw [e,AA,← NB,← AA] at hlen
  rw [e,← AY]
  have hl1:s.length+n.length≤100000000000000:=by rw [AA] at hlen;omega
  (repeat' (first|refine ctQ rfl ?_|((first|refine rgQ mxQ ?_|refine cdQ ?_|(refine AD.mk rfl (A0 n hbu hl1) ?_;rintro _ σ1 ⟨rfl,hb1⟩))<;>try simp -implicitDefEqProofs only [Ch h1,Ch h2,Ch h3,Ch h7,Ch h8,Ch h9,go_sem])|fail))
  (repeat' (first|refine ctQ rfl ?_|((first|refine rgQ mxQ ?_|refine cdQ ?_|(refine AD.mk rfl (hopt σ0 σ1 _ hH hb1 hlen) ?_;rintro _ σ2 ⟨rfl,hb2⟩))<;>try simp -implicitDefEqProofs only [go_sem])|fail))
  exact Run.fin Bx rfl (fun _ _ h=>h) (AK.le_refl _) ⟨rfl,hb2⟩
end Go.Ab
namespace Go.Ab
open Go.Proofs
variable {args:List AV} {σ:AK} {K:AV→AK→Prop}
def Kw:C:=(.seq (.reg [Qb 2 false] [0])
 (.seq (.reg [Qm 10 0,
 Qc 11 12 10,
 Qm 9 11,
 Qo 12 (.ext (.t 9) 0),
 Qo 13 (.ext (.t 9) 1),
 Qo 14 (.ext (.t 9) 2),
 Qo 3 (.al [.AO,.AO] false),
 Qz 3 12 2,
 Qm 4 13,
 Qm 5 14] [0,3,4,5])
 (.seq (.reg [Qm 16 0,
 Qc 17 13 16,
 Qm 15 17,
 Qo 18 (.ext (.t 15) 0),
 Qo 19 (.ext (.t 15) 1),
 Qo 20 (.ext (.t 15) 2),
 Qo 6 (.al [.AO,.AO] false),
 Qz 6 18 2,
 Qm 7 19,
 Qm 8 20] [3,4,5,6,7,8])
 (.seq (.reg [Qm 21 4,
 Qm 22 7,
 Qo 23 (.bin .eql (.t 21) (.t 22)),
 Qm 24 23,
 ⟨some 25,.mv (.t 5),some (24,true)⟩,
 ⟨some 26,.mv (.t 8),some (24,true)⟩,
 ⟨some 27,.bin .eql (.t 25) (.t 26),some (24,true)⟩,
 Qa 28 24 27,
 Qm 29 28,
 ⟨some 30,.ldl (.t 3) (some 2),some (29,true)⟩,
 ⟨some 31,.ldl (.t 6) (some 2),some (29,true)⟩,
 ⟨some 32,.call 14 [(.t 30),(.t 31)],some (29,true)⟩,
 Qa 33 29 32,
 Qm 34 33,
 ⟨some 35,.call 15 [],some (34,true)⟩,
 Qa 36 34 35,
 Qm 2 36] [2])
 .ret))))
noncomputable def EI:Cx:=⟨Tryz.prog,3,Tryz.f3,37,[300030,300031],[],[.t 2]⟩
theorem LV:Good EI:=⟨Tryz.func3,by kernel_rfl⟩
theorem Ru:EI.rs=[.t 2]:=rfl
theorem Sc (hl:args.length≤37) (h:Run EI K [.code Kw] (Ak args) E σ):AP Tryz.prog 3 args σ K:=
 AT (cx:=EI) (code:=Tryz.f3.body.getD .skip) LV (by kernel_rfl) Tryz.ntmps3 hl (AW EI _ (Aw Kw) _ [] (by kernel_rfl)) h
def cK:C:=(.seq (.seq (.reg [Qm 103 9,
 Qd 104 6 2,
 Ql 105 104,
 Qm 106 8,
 Qo 107 (.ix (.t 105) (.t 106) 2),
 Qd 108 107 1,
 Qo 109 (.ld (.t 108) none),
 Qo 110 (.len (.t 109)),
 Qo 111 (.bin .lss (.t 103) (.t 110))] [2,3,5,6,7,8,9,111])
 (.cond (.t 111) .skip
 (.exit 4)))
 (.seq (.block 5 (.seq (.reg [Qd 114 6 2,
 Ql 115 114,
 Qm 116 8,
 Qo 117 (.ix (.t 115) (.t 116) 2),
 Qd 118 117 1,
 Qo 119 (.ld (.t 118) none),
 Qm 120 9,
 Qo 121 (.ix (.t 119) (.t 120) 3),
 Qo 122 (.ld (.t 121) (some 3)),
 Qd 123 7 2,
 Ql 124 123,
 Qm 125 8,
 Qo 126 (.ix (.t 124) (.t 125) 2),
 Qd 127 126 1,
 Qo 128 (.ld (.t 127) none),
 Qm 129 9,
 Qo 130 (.ix (.t 128) (.t 129) 3),
 Qo 131 (.ld (.t 130) (some 3)),
 Qk 132 37 122 131,
 Qo 133 (.un .not (.t 132))] [2,3,5,6,7,8,9,133])
 (.cond (.t 133) (.seq (.reg [Qb 4 false] [4])
 .ret)
 .skip)))
 (.reg [Qm 112 9,
 Qp 113 112 1,
 Qm 9 113] [2,3,5,6,7,8,9])))
def cL:C:=(.seq (.seq (.reg [Qm 66 8,
 Qd 67 6 2,
 Ql 68 67,
 Qo 69 (.len (.t 68)),
 Qo 70 (.bin .lss (.t 66) (.t 69))] [2,3,5,6,7,8,70])
 (.cond (.t 70) .skip
 (.exit 2)))
 (.seq (.block 3 (.seq (.seq (.reg [Qd 73 6 2,
 Ql 74 73,
 Qm 75 8,
 Qo 76 (.ix (.t 74) (.t 75) 2),
 Qd 77 76 0,
 Qo 78 (.ld (.t 77) none),
 Qd 79 7 2,
 Ql 80 79,
 Qm 81 8,
 Qo 82 (.ix (.t 80) (.t 81) 2),
 Qd 83 82 0,
 Qo 84 (.ld (.t 83) none),
 Qo 85 (.bin .neq (.t 78) (.t 84)),
 Qm 86 85,
 ⟨some 87,.fld (.t 6) 2,some (86,false)⟩,
 ⟨some 88,.ldl (.t 87) none,some (86,false)⟩,
 ⟨some 89,.mv (.t 8),some (86,false)⟩,
 ⟨some 90,.ix (.t 88) (.t 89) 2,some (86,false)⟩,
 ⟨some 91,.fld (.t 90) 1,some (86,false)⟩,
 ⟨some 92,.ld (.t 91) none,some (86,false)⟩,
 ⟨some 93,.len (.t 92),some (86,false)⟩,
 ⟨some 94,.fld (.t 7) 2,some (86,false)⟩,
 ⟨some 95,.ldl (.t 94) none,some (86,false)⟩,
 ⟨some 96,.mv (.t 8),some (86,false)⟩,
 ⟨some 97,.ix (.t 95) (.t 96) 2,some (86,false)⟩,
 ⟨some 98,.fld (.t 97) 1,some (86,false)⟩,
 ⟨some 99,.ld (.t 98) none,some (86,false)⟩,
 ⟨some 100,.len (.t 99),some (86,false)⟩,
 ⟨some 101,.bin .neq (.t 93) (.t 100),some (86,false)⟩,
 Qr 102 86 101] [2,3,5,6,7,8,102])
 (.cond (.t 102) (.seq (.reg [Qb 4 false] [4])
 .ret)
 .skip))
 (.seq (.reg [Qi 9 0] [2,3,5,6,7,8,9])
 (.block 4 (.loop cK)))))
 (.reg [Qm 71 8,
 Qp 72 71 1,
 Qm 8 72] [2,3,5,6,7,8])))
def cM:C:=(.seq (.seq (.reg [Qm 27 5,
 Qd 28 2 0,
 Ql 29 28,
 Qo 30 (.len (.t 29)),
 Qo 31 (.bin .lss (.t 27) (.t 30))] [2,3,5,31])
 (.cond (.t 31) .skip
 (.exit 0)))
 (.seq (.block 1 (.seq (.Q8 (.one (Qo 6 (.al [(.d (.str [])),.AO,.AO] false))
 (.one (Qo 7 (.al [(.d (.str [])),.AO,.AO] false))
 (.one (Qd 34 2 0)
 (.one (Ql 35 34)
 (.one (Qm 36 5)
 (.one (Qo 37 (.ix (.t 35) (.t 36) 3))
 (.one (Qo 38 (.ld (.t 37) (some 3)))
 (.one (Qd 39 3 0)
 (.one (Qm 41 5)
 (.alt (Ql 40 39)
 (.one (Qo 42 (.ix (.t 40) (.t 41) 3))
 (.alt (Qo 43 (.ld (.t 42) (some 3)))
 (.one (Qz 6 38 3)
 (.one (Qz 7 43 3)
 .done))
 (.alt (Qz 6 38 3)
 (.one (Qo 43 (.ld (.t 42) (some 3)))
 (.one (Qz 7 43 3)
 .done))
 .done)))
 (.alt (Qz 6 38 3)
 (.one (Ql 40 39)
 (.one (Qo 42 (.ix (.t 40) (.t 41) 3))
 (.one (Qo 43 (.ld (.t 42) (some 3)))
 (.one (Qz 7 43 3)
 .done))))
 .done))))))))))) [2,3,5,6,7])
 (.seq (.seq (.reg [Qd 44 6 0,
 Ql 45 44,
 Qd 46 7 0,
 Ql 47 46,
 Qo 48 (.bin .neq (.t 45) (.t 47)),
 Qm 49 48,
 ⟨some 50,.fld (.t 6) 1,some (49,false)⟩,
 ⟨some 51,.ldl (.t 50) none,some (49,false)⟩,
 ⟨some 52,.fld (.t 7) 1,some (49,false)⟩,
 ⟨some 53,.ldl (.t 52) none,some (49,false)⟩,
 ⟨some 54,.call 36 [(.t 51),(.t 53)],some (49,false)⟩,
 ⟨some 55,.un .not (.t 54),some (49,false)⟩,
 Qr 56 49 55,
 Qm 57 56,
 ⟨some 58,.fld (.t 6) 2,some (57,false)⟩,
 ⟨some 59,.ldl (.t 58) none,some (57,false)⟩,
 ⟨some 60,.len (.t 59),some (57,false)⟩,
 ⟨some 61,.fld (.t 7) 2,some (57,false)⟩,
 ⟨some 62,.ldl (.t 61) none,some (57,false)⟩,
 ⟨some 63,.len (.t 62),some (57,false)⟩,
 ⟨some 64,.bin .neq (.t 60) (.t 63),some (57,false)⟩,
 Qr 65 57 64] [2,3,5,6,7,65])
 (.cond (.t 65) (.seq (.reg [Qb 4 false] [4])
 .ret)
 .skip))
 (.seq (.reg [Qi 8 0] [2,3,5,6,7,8])
 (.block 2 (.loop cL))))))
 (.reg [Qm 32 5,
 Qp 33 32 1,
 Qm 5 33] [2,3,5])))
def cN:C:=(.seq (.seq (.reg [Qm 134 10,
 Qd 135 2 1,
 Ql 136 135,
 Qo 137 (.len (.t 136)),
 Qo 138 (.bin .lss (.t 134) (.t 137))] [2,3,10,138])
 (.cond (.t 138) .skip
 (.exit 6)))
 (.seq (.block 7 (.seq (.reg [Qd 141 2 1,
 Ql 142 141,
 Qm 143 10,
 Qo 144 (.ix (.t 142) (.t 143) 8),
 Qd 145 144 0,
 Qo 146 (.ld (.t 145) none),
 Qd 147 3 1,
 Ql 148 147,
 Qm 149 10,
 Qo 150 (.ix (.t 148) (.t 149) 8),
 Qd 151 150 0,
 Qo 152 (.ld (.t 151) none),
 Qo 153 (.bin .neq (.t 146) (.t 152)),
 Qm 154 153,
 ⟨some 155,.fld (.t 2) 1,some (154,false)⟩,
 ⟨some 156,.ldl (.t 155) none,some (154,false)⟩,
 ⟨some 157,.mv (.t 10),some (154,false)⟩,
 ⟨some 158,.ix (.t 156) (.t 157) 8,some (154,false)⟩,
 ⟨some 159,.fld (.t 158) 1,some (154,false)⟩,
 ⟨some 160,.ld (.t 159) none,some (154,false)⟩,
 ⟨some 161,.fld (.t 3) 1,some (154,false)⟩,
 ⟨some 162,.ldl (.t 161) none,some (154,false)⟩,
 ⟨some 163,.mv (.t 10),some (154,false)⟩,
 ⟨some 164,.ix (.t 162) (.t 163) 8,some (154,false)⟩,
 ⟨some 165,.fld (.t 164) 1,some (154,false)⟩,
 ⟨some 166,.ld (.t 165) none,some (154,false)⟩,
 ⟨some 167,.call 36 [(.t 160),(.t 166)],some (154,false)⟩,
 ⟨some 168,.un .not (.t 167),some (154,false)⟩,
 Qr 169 154 168,
 Qm 170 169,
 ⟨some 171,.fld (.t 2) 1,some (170,false)⟩,
 ⟨some 172,.ldl (.t 171) none,some (170,false)⟩,
 ⟨some 173,.mv (.t 10),some (170,false)⟩,
 ⟨some 174,.ix (.t 172) (.t 173) 8,some (170,false)⟩,
 ⟨some 175,.fld (.t 174) 2,some (170,false)⟩,
 ⟨some 176,.ld (.t 175) (some 6),some (170,false)⟩,
 ⟨some 177,.fld (.t 3) 1,some (170,false)⟩,
 ⟨some 178,.ldl (.t 177) none,some (170,false)⟩,
 ⟨some 179,.mv (.t 10),some (170,false)⟩,
 ⟨some 180,.ix (.t 178) (.t 179) 8,some (170,false)⟩,
 ⟨some 181,.fld (.t 180) 2,some (170,false)⟩,
 ⟨some 182,.ld (.t 181) (some 6),some (170,false)⟩,
 ⟨some 183,.call 38 [(.t 176),(.t 182)],some (170,false)⟩,
 ⟨some 184,.un .not (.t 183),some (170,false)⟩,
 Qr 185 170 184] [2,3,10,185])
 (.cond (.t 185) (.seq (.reg [Qb 4 false] [4])
 .ret)
 .skip)))
 (.reg [Qm 139 10,
 Qp 140 139 1,
 Qm 10 140] [2,3,10])))
def lB:C:=(.seq (.reg [Qo 2 (.box (.t 0) false),
 Qo 3 (.box (.t 1) false),
 Qb 4 false] [2,3])
 (.seq (.seq (.reg [Qd 11 2 0,
 Ql 12 11,
 Qo 13 (.len (.t 12)),
 Qd 14 3 0,
 Ql 15 14,
 Qo 16 (.len (.t 15)),
 Qo 17 (.bin .neq (.t 13) (.t 16)),
 Qm 18 17,
 ⟨some 19,.fld (.t 2) 1,some (18,false)⟩,
 ⟨some 20,.ldl (.t 19) none,some (18,false)⟩,
 ⟨some 21,.len (.t 20),some (18,false)⟩,
 ⟨some 22,.fld (.t 3) 1,some (18,false)⟩,
 ⟨some 23,.ldl (.t 22) none,some (18,false)⟩,
 ⟨some 24,.len (.t 23),some (18,false)⟩,
 ⟨some 25,.bin .neq (.t 21) (.t 24),some (18,false)⟩,
 Qr 26 18 25] [2,3,26])
 (.cond (.t 26) (.seq (.reg [Qb 4 false] [4])
 .ret)
 .skip))
 (.seq (.seq (.reg [Qi 5 0] [2,3,5])
 (.block 0 (.loop cM)))
 (.seq (.seq (.reg [Qi 10 0] [2,3,10])
 (.block 6 (.loop cN)))
 (.seq (.reg [Qb 4 true] [4])
 .ret)))))
def nY:List (List Nat×PT):=[([2,3],.done),([2,3,26],.done),([4],.done),([2,3,5],.done),([2,3,5,31],.done),([2,3,5,6,7],(.lay 10 (.lay 11 (.one 0 (.one 1 (.one 2 (.one 3 (.one 4 (.one 5 (.one 7 (.alt 6 (.one 8 (.alt 9 (.one 12 (.one 13 .done)) (.alt 12 (.one 9 (.one 13 .done)) .done))) (.alt 12 (.one 6 (.one 8 (.one 9 (.one 13 .done)))) .done)))))))))))),([2,3,5,6,7,65],.done),([4],.done),([2,3,5,6,7,8],.done),([2,3,5,6,7,8,70],.done),([2,3,5,6,7,8,102],.done),([4],.done),([2,3,5,6,7,8,9],.done),([2,3,5,6,7,8,9,111],.done),([2,3,5,6,7,8,9,133],.done),([4],.done),([2,3,5,6,7,8,9],.done),([2,3,5,6,7,8],.done),([2,3,5],.done),([2,3,10],.done),([2,3,10,138],.done),([2,3,10,185],.done),([4],.done),([2,3,10],.done),([4],.done)]
noncomputable def Nk:Cx:=⟨Tryz.prog,14,Tryz.f14,186,[300012,300015,300020,300023,300029,300035,300040,300045,300047,300051,300053,300059,300062,300068,300074,300080,300088,300095,300105,300115,300124,300136,300142,300148,300156,300162,300172,300178],[],[.t 4]⟩
theorem Dt:Good Nk:=⟨Tryz.func14,by kernel_rfl⟩
theorem j3:Nk.rs=[.t 4]:=rfl
theorem lX (hl:args.length≤186) (h:Run Nk K [.code lB] (Ak args) E σ):AP Tryz.prog 14 args σ K:=
 AT (cx:=Nk) (code:=Tryz.f14.body.getD .skip) Dt (by kernel_rfl) Tryz.ntmps14 hl (AW Nk _ nY _ [] (by kernel_rfl)) h
def UR:C:=(.seq (.reg [Qb 0 false] [])
 (.seq (.reg [Qo 5 (.call 12 [(.c (.d (.str [102,117,110,32,102,40,120,41,61,105,102,32,120,60,61,48,32,116,104,101,110,40,41,32,101,108,115,101,32,102,40,120,45,49,41,59])))]),
 Qm 4 5,
 Qo 6 (.ext (.t 4) 0),
 Qo 7 (.ext (.t 4) 1),
 Qo 8 (.ext (.t 4) 2),
 Qo 1 (.al [.AO,.AO] false),
 Qz 1 6 2,
 Qm 2 7,
 Qm 3 8] [1,3])
 (.seq (.reg [Qm 9 3,
 Qe 10 9 0,
 Qm 11 10,
 ⟨some 12,.fld (.t 1) 1,some (11,true)⟩,
 ⟨some 13,.ldl (.t 12) none,some (11,true)⟩,
 ⟨some 14,.len (.t 13),some (11,true)⟩,
 ⟨some 15,.bin .eql (.t 14) (.c (.d (.int .i64 1))),some (11,true)⟩,
 Qa 16 11 15,
 Qm 17 16,
 ⟨some 18,.ldl (.t 1) (some 2),some (17,true)⟩,
 ⟨some 19,.call 17 [(.t 18)],some (17,true)⟩,
 ⟨some 20,.bin .eql (.t 19) (.c (.d (.str [102,117,110,32,102,40,120,41,32,61,32,105,102,32,120,32,60,61,32,48,32,116,104,101,110,32,40,41,32,101,108,115,101,32,102,40,120,32,45,32,49,41,59,10]))),some (17,true)⟩,
 Qa 21 17 20,
 Qm 0 21] [0])
 .ret)))
noncomputable def IY:Cx:=⟨Tryz.prog,15,Tryz.f15,22,[300013,300018],[],[.t 0]⟩
theorem U8:Good IY:=⟨Tryz.func15,by kernel_rfl⟩
theorem aM:IY.rs=[.t 0]:=rfl
theorem cU (hl:args.length≤22) (h:Run IY K [.code UR] (Ak args) E σ):AP Tryz.prog 15 args σ K:=
 AT (cx:=IY) (code:=Tryz.f15.body.getD .skip) U8 (by kernel_rfl) Tryz.ntmps15 hl (AW IY _ (Aw UR) _ [] (by kernel_rfl)) h
def V8:C:=(.seq (.seq (.reg [Qm 11 5,
 Qm 12 0,
 Qo 13 (.len (.t 12)),
 Qo 14 (.bin .lss (.t 11) (.t 13))] [0,1,5,14])
 (.cond (.t 14) .skip
 (.exit 0)))
 (.seq (.block 1 (.seq (.reg [Qm 17 0,
 Qm 18 5,
 Qo 19 (.ix (.t 17) (.t 18) 1),
 Qo 20 (.ld (.t 19) none),
 Qm 21 1,
 Qm 22 5,
 Qo 23 (.ix (.t 21) (.t 22) 1),
 Qo 24 (.ld (.t 23) none),
 Qo 25 (.bin .neq (.t 20) (.t 24))] [0,1,5,25])
 (.cond (.t 25) (.seq (.reg [Qb 4 false] [4])
 .ret)
 .skip)))
 (.reg [Qm 15 5,
 Qp 16 15 1,
 Qm 5 16] [0,1,5])))
def SZ:C:=(.seq (.reg [Qb 4 false] [0,1])
 (.seq (.seq (.reg [Qm 6 0,
 Qo 7 (.len (.t 6)),
 Qm 8 1,
 Qo 9 (.len (.t 8)),
 Qo 10 (.bin .neq (.t 7) (.t 9))] [0,1,10])
 (.cond (.t 10) (.seq (.reg [Qb 4 false] [4])
 .ret)
 .skip))
 (.seq (.seq (.reg [Qi 5 0] [0,1,5])
 (.block 0 (.loop V8)))
 (.seq (.reg [Qb 4 true] [4])
 .ret))))
noncomputable def Hd:Cx:=⟨Tryz.prog,36,Tryz.f36,26,[],[],[.t 4]⟩
theorem J2:Good Hd:=⟨Tryz.func36,by kernel_rfl⟩
theorem Y5:Hd.rs=[.t 4]:=rfl
theorem Zk (hl:args.length≤26) (h:Run Hd K [.code SZ] (Ak args) E σ):AP Tryz.prog 36 args σ K:=
 AT (cx:=Hd) (code:=Tryz.f36.body.getD .skip) J2 (by kernel_rfl) Tryz.ntmps36 hl (AW Hd _ (Aw SZ) _ [] (by kernel_rfl)) h
def Wc:C:=(.seq (.seq (.reg [Qm 27 5,
 Qd 28 2 2,
 Ql 29 28,
 Qo 30 (.len (.t 29)),
 Qo 31 (.bin .lss (.t 27) (.t 30))] [2,3,5,31])
 (.cond (.t 31) .skip
 (.exit 0)))
 (.seq (.block 1 (.seq (.reg [Qd 34 2 2,
 Ql 35 34,
 Qm 36 5,
 Qo 37 (.ix (.t 35) (.t 36) 3),
 Qo 38 (.ld (.t 37) (some 3)),
 Qd 39 3 2,
 Ql 40 39,
 Qm 41 5,
 Qo 42 (.ix (.t 40) (.t 41) 3),
 Qo 43 (.ld (.t 42) (some 3)),
 Qk 44 37 38 43,
 Qo 45 (.un .not (.t 44))] [2,3,5,45])
 (.cond (.t 45) (.seq (.reg [Qb 4 false] [4])
 .ret)
 .skip)))
 (.reg [Qm 32 5,
 Qp 33 32 1,
 Qm 5 33] [2,3,5])))
def UX:C:=(.seq (.reg [Qo 2 (.box (.t 0) false),
 Qo 3 (.box (.t 1) false),
 Qb 4 false] [2,3])
 (.seq (.seq (.reg [Qd 6 2 0,
 Ql 7 6,
 Qd 8 3 0,
 Ql 9 8,
 Qo 10 (.bin .neq (.t 7) (.t 9)),
 Qm 11 10,
 ⟨some 12,.fld (.t 2) 1,some (11,false)⟩,
 ⟨some 13,.ldl (.t 12) none,some (11,false)⟩,
 ⟨some 14,.fld (.t 3) 1,some (11,false)⟩,
 ⟨some 15,.ldl (.t 14) none,some (11,false)⟩,
 ⟨some 16,.bin .neq (.t 13) (.t 15),some (11,false)⟩,
 Qr 17 11 16,
 Qm 18 17,
 ⟨some 19,.fld (.t 2) 2,some (18,false)⟩,
 ⟨some 20,.ldl (.t 19) none,some (18,false)⟩,
 ⟨some 21,.len (.t 20),some (18,false)⟩,
 ⟨some 22,.fld (.t 3) 2,some (18,false)⟩,
 ⟨some 23,.ldl (.t 22) none,some (18,false)⟩,
 ⟨some 24,.len (.t 23),some (18,false)⟩,
 ⟨some 25,.bin .neq (.t 21) (.t 24),some (18,false)⟩,
 Qr 26 18 25] [2,3,26])
 (.cond (.t 26) (.seq (.reg [Qb 4 false] [4])
 .ret)
 .skip))
 (.seq (.seq (.reg [Qi 5 0] [2,3,5])
 (.block 0 (.loop Wc)))
 (.seq (.reg [Qb 4 true] [4])
 .ret))))
noncomputable def I0:Cx:=⟨Tryz.prog,37,Tryz.f37,46,[300007,300009,300013,300015,300020,300023,300029,300035,300040],[],[.t 4]⟩
theorem Gu:Good I0:=⟨Tryz.func37,by kernel_rfl⟩
theorem aO:I0.rs=[.t 4]:=rfl
theorem cW (hl:args.length≤46) (h:Run I0 K [.code UX] (Ak args) E σ):AP Tryz.prog 37 args σ K:=
 AT (cx:=I0) (code:=Tryz.f37.body.getD .skip) Gu (by kernel_rfl) Tryz.ntmps37 hl (AW I0 _ (Aw UX) _ [] (by kernel_rfl)) h
def Wa:C:=(.seq (.seq (.reg [Qm 52 5,
 Qd 53 2 4,
 Ql 54 53,
 Qo 55 (.len (.t 54)),
 Qo 56 (.bin .lss (.t 52) (.t 55))] [2,3,5,56])
 (.cond (.t 56) .skip
 (.exit 0)))
 (.seq (.block 1 (.seq (.reg [Qd 59 2 4,
 Ql 60 59,
 Qm 61 5,
 Qo 62 (.ix (.t 60) (.t 61) 6),
 Qo 63 (.ld (.t 62) (some 6)),
 Qd 64 3 4,
 Ql 65 64,
 Qm 66 5,
 Qo 67 (.ix (.t 65) (.t 66) 6),
 Qo 68 (.ld (.t 67) (some 6)),
 Qk 69 38 63 68,
 Qo 70 (.un .not (.t 69))] [2,3,5,70])
 (.cond (.t 70) (.seq (.reg [Qb 4 false] [4])
 .ret)
 .skip)))
 (.reg [Qm 57 5,
 Qp 58 57 1,
 Qm 5 58] [2,3,5])))
def Wb:C:=(.seq (.seq (.reg [Qm 71 6,
 Qd 72 2 5,
 Ql 73 72,
 Qo 74 (.len (.t 73)),
 Qo 75 (.bin .lss (.t 71) (.t 74))] [2,3,6,75])
 (.cond (.t 75) .skip
 (.exit 2)))
 (.seq (.block 3 (.seq (.reg [Qd 78 2 5,
 Ql 79 78,
 Qm 80 6,
 Qo 81 (.ix (.t 79) (.t 80) 8),
 Qd 82 81 0,
 Qo 83 (.ld (.t 82) none),
 Qd 84 3 5,
 Ql 85 84,
 Qm 86 6,
 Qo 87 (.ix (.t 85) (.t 86) 8),
 Qd 88 87 0,
 Qo 89 (.ld (.t 88) none),
 Qo 90 (.bin .neq (.t 83) (.t 89)),
 Qm 91 90,
 ⟨some 92,.fld (.t 2) 5,some (91,false)⟩,
 ⟨some 93,.ldl (.t 92) none,some (91,false)⟩,
 ⟨some 94,.mv (.t 6),some (91,false)⟩,
 ⟨some 95,.ix (.t 93) (.t 94) 8,some (91,false)⟩,
 ⟨some 96,.fld (.t 95) 1,some (91,false)⟩,
 ⟨some 97,.ld (.t 96) none,some (91,false)⟩,
 ⟨some 98,.fld (.t 3) 5,some (91,false)⟩,
 ⟨some 99,.ldl (.t 98) none,some (91,false)⟩,
 ⟨some 100,.mv (.t 6),some (91,false)⟩,
 ⟨some 101,.ix (.t 99) (.t 100) 8,some (91,false)⟩,
 ⟨some 102,.fld (.t 101) 1,some (91,false)⟩,
 ⟨some 103,.ld (.t 102) none,some (91,false)⟩,
 ⟨some 104,.call 36 [(.t 97),(.t 103)],some (91,false)⟩,
 ⟨some 105,.un .not (.t 104),some (91,false)⟩,
 Qr 106 91 105,
 Qm 107 106,
 ⟨some 108,.fld (.t 2) 5,some (107,false)⟩,
 ⟨some 109,.ldl (.t 108) none,some (107,false)⟩,
 ⟨some 110,.mv (.t 6),some (107,false)⟩,
 ⟨some 111,.ix (.t 109) (.t 110) 8,some (107,false)⟩,
 ⟨some 112,.fld (.t 111) 2,some (107,false)⟩,
 ⟨some 113,.ld (.t 112) (some 6),some (107,false)⟩,
 ⟨some 114,.fld (.t 3) 5,some (107,false)⟩,
 ⟨some 115,.ldl (.t 114) none,some (107,false)⟩,
 ⟨some 116,.mv (.t 6),some (107,false)⟩,
 ⟨some 117,.ix (.t 115) (.t 116) 8,some (107,false)⟩,
 ⟨some 118,.fld (.t 117) 2,some (107,false)⟩,
 ⟨some 119,.ld (.t 118) (some 6),some (107,false)⟩,
 ⟨some 120,.call 38 [(.t 113),(.t 119)],some (107,false)⟩,
 ⟨some 121,.un .not (.t 120),some (107,false)⟩,
 Qr 122 107 121] [2,3,6,122])
 (.cond (.t 122) (.seq (.reg [Qb 4 false] [4])
 .ret)
 .skip)))
 (.reg [Qm 76 6,
 Qp 77 76 1,
 Qm 6 77] [2,3,6])))
def UW:C:=(.seq (.reg [Qo 2 (.box (.t 0) false),
 Qo 3 (.box (.t 1) false),
 Qb 4 false] [2,3])
 (.seq (.seq (.reg [Qd 7 2 0,
 Ql 8 7,
 Qd 9 3 0,
 Ql 10 9,
 Qo 11 (.bin .neq (.t 8) (.t 10)),
 Qm 12 11,
 ⟨some 13,.fld (.t 2) 1,some (12,false)⟩,
 ⟨some 14,.ldl (.t 13) none,some (12,false)⟩,
 ⟨some 15,.fld (.t 3) 1,some (12,false)⟩,
 ⟨some 16,.ldl (.t 15) none,some (12,false)⟩,
 ⟨some 17,.bin .neq (.t 14) (.t 16),some (12,false)⟩,
 Qr 18 12 17,
 Qm 19 18,
 ⟨some 20,.fld (.t 2) 2,some (19,false)⟩,
 ⟨some 21,.ldl (.t 20) none,some (19,false)⟩,
 ⟨some 22,.fld (.t 3) 2,some (19,false)⟩,
 ⟨some 23,.ldl (.t 22) none,some (19,false)⟩,
 ⟨some 24,.bin .neq (.t 21) (.t 23),some (19,false)⟩,
 Qr 25 19 24,
 Qm 26 25,
 ⟨some 27,.fld (.t 2) 3,some (26,false)⟩,
 ⟨some 28,.ldl (.t 27) none,some (26,false)⟩,
 ⟨some 29,.fld (.t 3) 3,some (26,false)⟩,
 ⟨some 30,.ldl (.t 29) none,some (26,false)⟩,
 ⟨some 31,.call 36 [(.t 28),(.t 30)],some (26,false)⟩,
 ⟨some 32,.un .not (.t 31),some (26,false)⟩,
 Qr 33 26 32,
 Qm 34 33,
 ⟨some 35,.fld (.t 2) 4,some (34,false)⟩,
 ⟨some 36,.ldl (.t 35) none,some (34,false)⟩,
 ⟨some 37,.len (.t 36),some (34,false)⟩,
 ⟨some 38,.fld (.t 3) 4,some (34,false)⟩,
 ⟨some 39,.ldl (.t 38) none,some (34,false)⟩,
 ⟨some 40,.len (.t 39),some (34,false)⟩,
 ⟨some 41,.bin .neq (.t 37) (.t 40),some (34,false)⟩,
 Qr 42 34 41,
 Qm 43 42,
 ⟨some 44,.fld (.t 2) 5,some (43,false)⟩,
 ⟨some 45,.ldl (.t 44) none,some (43,false)⟩,
 ⟨some 46,.len (.t 45),some (43,false)⟩,
 ⟨some 47,.fld (.t 3) 5,some (43,false)⟩,
 ⟨some 48,.ldl (.t 47) none,some (43,false)⟩,
 ⟨some 49,.len (.t 48),some (43,false)⟩,
 ⟨some 50,.bin .neq (.t 46) (.t 49),some (43,false)⟩,
 Qr 51 43 50] [2,3,51])
 (.cond (.t 51) (.seq (.reg [Qb 4 false] [4])
 .ret)
 .skip))
 (.seq (.seq (.reg [Qi 5 0] [2,3,5])
 (.block 0 (.loop Wa)))
 (.seq (.seq (.reg [Qi 6 0] [2,3,6])
 (.block 2 (.loop Wb)))
 (.seq (.reg [Qb 4 true] [4])
 .ret)))))
noncomputable def IZ:Cx:=⟨Tryz.prog,38,Tryz.f38,123,[300008,300010,300014,300016,300021,300023,300028,300030,300036,300039,300045,300048,300054,300060,300065,300073,300079,300085,300093,300099,300109,300115],[],[.t 4]⟩
theorem Cc:Good IZ:=⟨Tryz.func38,by kernel_rfl⟩
theorem aN:IZ.rs=[.t 4]:=rfl
theorem cV (hl:args.length≤123) (h:Run IZ K [.code UW] (Ak args) E σ):AP Tryz.prog 38 args σ K:=
 AT (cx:=IZ) (code:=Tryz.f38.body.getD .skip) Cc (by kernel_rfl) Tryz.ntmps38 hl (AW IZ _ (Aw UW) _ [] (by kernel_rfl)) h
def Ky:C:=(.seq (.reg [Qo 2 (.mv (.c (.d (.str []))))] [0])
 (.seq (.reg [Qm 3 0,
 Qc 4 176 3,
 Qm 2 4] [2])
 .ret))
noncomputable def EJ:Cx:=⟨Tryz.prog,145,Tryz.f145,5,[],[],[.t 2]⟩
theorem LX:Good EJ:=⟨Tryz.func145,by kernel_rfl⟩
theorem Rv:EJ.rs=[.t 2]:=rfl
theorem Sf (hl:args.length≤5) (h:Run EJ K [.code Ky] (Ak args) E σ):AP Tryz.prog 145 args σ K:=
 AT (cx:=EJ) (code:=Tryz.f145.body.getD .skip) LX (by kernel_rfl) Tryz.ntmps145 hl (AW EJ _ (Aw Ky) _ [] (by kernel_rfl)) h
def GL:C:=(.seq (.reg [Qo 2 (.mv (.c (.d (.str []))))] [0])
 (.seq (.seq (.reg [Qm 3 0] [3])
 (.cond (.t 3) (.seq (.reg [Qo 2 (.mv (.c (.d (.str [116,114,117,101]))))] [2])
 .ret)
 .skip))
 (.seq (.reg [Qo 2 (.mv (.c (.d (.str [102,97,108,115,101]))))] [2])
 .ret)))
noncomputable def By:Cx:=⟨Tryz.prog,176,Tryz.f176,4,[],[],[.t 2]⟩
theorem GO:Good By:=⟨Tryz.func176,by kernel_rfl⟩
theorem Kj:By.rs=[.t 2]:=rfl
theorem L6 (hl:args.length≤4) (h:Run By K [.code GL] (Ak args) E σ):AP Tryz.prog 176 args σ K:=
 AT (cx:=By) (code:=Tryz.f176.body.getD .skip) GO (by kernel_rfl) Tryz.ntmps176 hl (AW By _ (Aw GL) _ [] (by kernel_rfl)) h
attribute [go_sem] Ru j3 aM Y5 aO aN Rv Kj
end Go.Ab
