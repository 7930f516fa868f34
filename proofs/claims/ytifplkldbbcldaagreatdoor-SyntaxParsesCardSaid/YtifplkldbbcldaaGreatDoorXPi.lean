/- The parser: applications, products, sums, comparisons. The reference's parser: applications, products, sums. The reference's parser: alternatives. Conditions: none. -/
import Derived.Test.YtifplkldbbcldaaGreatDoorXRk
set_option linter.unusedSimpArgs false
set_option linter.unusedVariables false
set_option maxRecDepth 4000
set_option maxHeartbeats 8000000
open List renaming all_eq_true→A7,getElem_of_mem→Cp,getElem?_eq_getElem→Az,mem_of_getElem?→Aa,map_cons→AB,map_nil→AE,length_pos_iff→A5,length_map→AJ,length_cons→AG,length_nil→AI,nil_append→A6,map_append→Ax,length_append→AA
open Option renaming map_some→Cf
open Option.some renaming injEq→AQ,inj→DK
open Bool renaming false_eq_true→AL
namespace Go.Ab
open Go.Proofs
theorem Run.gH {cx:Cx} {KK:AV→AK→Prop} {k:List CI} {F:Fm} {L L':Lm} {σ:AK} (hL:∀q cs',L' q=some cs'→∃cs,L q=some cs∧(cs'=cs∨cs'=AV.E7 cs)) (h:Run cx KK k F L' σ):Run cx KK k F L σ:=by
 intro items base g lam Pr a w0 w b cs0 hi0 hf hb hk
 refine h items base g lam Pr a w0 w b cs0 hi0 ⟨hf.tm,hf.sz,hf.df,fun q cs' hq=>?_,hf.inj,hf.npr,hf.rel⟩ hb hk
 obtain ⟨cs,hc,hp⟩:=hL q cs' hq
 obtain ⟨hok,b',vs,ty,h1,h2,h3,h4⟩:=hf.loc q cs hc
 refine ⟨?_,b',vs,ty,h1,h2,h3,?_⟩
 · rcases hp with rfl|rfl
   · exact hok
   · simp only [Ag,A7] at hok ⊢
     intro v hv
     obtain ⟨i,hi,rfl⟩:=Cp hv
     have h1:=N4 cs i
     rw [Az hi] at h1
     cases hcs:cs[i]? with
     |none=>rw [hcs] at h1;cases h1
     |some c'=>rw [hcs] at h1;simp only [Cf,AQ] at h1;rw [h1];exact VG (hok c' (Aa hcs))
 · rcases hp with rfl|rfl
   · exact h4
   · exact h4.plain
def exC (e:Ex):List AV:=e.enc.map AV.d
theorem F2 (o:Int) (n:Str) (u:Int) (ns:List Str) (ks:List Ex) (al:List Al):[AV.d (.int .i64 o),.d (.str n),.d (.int .i64 u),.d (.sl (ns.map Br)),.d (.sl (ks.map Ex.enc)),.d (.sl (al.map Al.enc))]=exC (.mk o n u ns ks al):=by
 rw [exC,Ex.AS];rfl
theorem Z4 (i:Nat) (L:List Tok) (n:Nat) {E:PM Ex} (hE:PC 131 [.gp i 0] i L n E exA):PC 208 [.gp i 0,.fn 131 [.gp i 0] []] i L n (closed E) (fun l=>.d (.sl (l.map Ex.enc))):=(Us i L n Ym hE).pc
theorem ACI {E:PM Ex} {n:Nat} {a:Ex} {s:PSt} (hc:(s.hd.text==[40])=true):(ZR E (n+1) a).run s=(ZR E n (exN 12 0 (a::((closed E).run s.adv).1))).run ((closed E).run s.adv).2:=if_pos hc
theorem ACH {E:PM Ex} {n:Nat} {a:Ex} {s:PSt} (hc:(s.hd.text==[40])=false):(ZR E (n+1) a).run s=(a,s):=if_neg (by rw [hc];decide)
set_option maxHeartbeats 2000000 in
theorem tP (i:Nat) {L:List Tok} (hN:NOk L) (n:Nat) {E:PM Ex} (hE:PC 131 [.gp i 0] i L n E exA):PC 204 [.gp i 0] i L (n+1) (VE E) exA:=by
 intro σ s0 g0 h0 l0 b0
 refine Ts (by simp) ?_
 rw [Ar]
 simp only [VE,run_bind]
 (have c0:=(AAB i hN n hE) σ s0 g0 h0 (by omega) b0;have h1:=h0.run (Xv E);have l1:=PM.le (Xv E) h0.wf;generalize (Xv E).run s0=y at c0 h1 l1 ⊢;obtain ⟨x0,s1⟩:=y;simp only at c0 h1 l1 ⊢;have b1:(σ.AH i (psA L s1)).blk i=some (psA L s1):=AX;obtain ⟨o0,n0,u0,ns0,ks0,al0⟩:=x0;simp only [exA,Ex.AS,AB,AE] at c0 ⊢)
 (repeat' (first|refine ctQ rfl ?_|((first|refine rgQ mxQ ?_|refine cdQ ?_|(refine AD.upd c0 ?_))<;>try simp -implicitDefEqProofs only [go_sem])|fail))
 rw [F2]
 refine Run.BU ?_
 have hf0:=Bo
 have hl0:=h0.suf.length_le
 have hl1:=h0.len
 refine Run.BZ (α:=PSt×Ex×Nat) (fun _=>put 0 (.gp i 0) (put 2 (.lp 2 0) (put 3 (.lp 3 0) U))) (fun y=>Aq 2 [.d (.int .i64 0),.d (.str []),.d (.int .i64 0),.AO,.AO,.AO] (Aq 3 (exC y.2.1) Ab.E)) (fun y=>σ.AH i (psA L y.1)) (fun y=>POk L y.1∧y.1.r.length≤n+1∧y.1.r.length≤y.2.2∧(ZR E y.2.2 y.2.1).run y.1=(ZR E Af (Ex.mk o0 n0 u0 ns0 ks0 al0)).run s1) (fun y=>y.1.r.length) ?_ (s1,(Ex.mk o0 n0 u0 ns0 ks0 al0),Af) ⟨h1,by simp only;omega,by simp only;omega,rfl⟩
 rintro ⟨s2,a,q⟩ ⟨p1,p2,p3,p4⟩ ih
 simp only at p1 p2 p3 p4
 have b2:(σ.AH i (psA L s2)).blk i=some (psA L s2):=AX
 obtain ⟨q,rfl⟩:∃m,q=m+1:=⟨q - 1,by have:=A5.2 p1.wf.ne;omega⟩
 have hlen:=Ut (read:=E) (s:=s2.adv)
 obtain ⟨o,nm,u,ns,ks,al⟩:=a
 simp only [← F2]
 cases hc:s2.hd.text==[40] with
 |false=>
  rw [ACH hc] at p4
  rw [← p4]
  simp only [Ex.AS,AB,AE]
  (repeat' (first|refine ctQ rfl ?_|((first|refine rgQ mxQ ?_|refine cdQ ?_|refine Run.A2 M2 (AK.le_refl _) ?_|refine AD.det (DN p1 _ (σ.AH i (psA L s2)) b2 hc) ?_)<;>try simp -implicitDefEqProofs only [go_sem])|fail))
 |true=>
  rw [ACI hc] at p4
  have h2:=p1
  (have c2:=DO h2 [40] (σ.AH i (psA L s2)) b2 hc;rw [AN] at c2;have h3:=h2.adv (t:=[40]) (by decide) hc;have l3:=BW h2.wf;generalize s2.adv=s3 at c2 h3 l3 p4 ⊢;have b3:(σ.AH i (psA L s3)).blk i=some (psA L s3):=by rw [AZ,if_pos rfl])
  have d3:=fun tk:Nat=>Z4 i L n hE ((σ.AH i (psA L s3)).CO tk) s3 g0 h3 (by omega) (by rw [Ep];exact b3)
  have c3:=Z4 i L n hE (σ.AH i (psA L s3)) s3 g0 h3 (by omega) b3
  rw [AN] at c3
  have h4:=h3.run (closed E)
  have l4:=PM.le (closed E) h3.wf
  have n3:=Ut (read:=E) h3.wf
  generalize (closed E).run s3=y at c3 d3 h4 l4 n3 p4
  obtain ⟨x3,s4⟩:=y
  simp only at c3 d3 h4 l4 n3 p4
  have q3:=h3.suf.length_le
  have hfin:∀v2 τ2,LS σ i L s4 44 6 ((Ex.mk o nm u ns ks al::x3).map Ex.enc) v2 τ2→Run D8 (fun v σ'=>v= .agg (((ZR E Af (Ex.mk o0 n0 u0 ns0 ks0 al0)).run s1).1.enc.map AV.d)∧σ'=σ.AH i (psA L ((ZR E Af (Ex.mk o0 n0 u0 ns0 ks0 al0)).run s1).2))
   [CI.again JT,CI.blk 0,CI.code ((C.reg [⟨some 16,.ldl (.t 3) (some 6),none⟩,⟨none,.st (.t 2) (.t 16) 6,none⟩] [2]).seq C.ret)]
   (put 0 (.gp i 0) (put 2 (.lp 2 0) (put 3 (.lp 3 0) U))) (Aq 2 [.d (.int .i64 0),.d (.str []),.d (.int .i64 0),.AO,.AO,.AO] (Aq 3 [.d (.int .i64 12),.d (.str []),.d (.int .i64 0),.AO,v2,.AO] Ab.E)) τ2:=fun v2 τ2 ho=>by
   refine Run.bZ (σ':=σ.AH i (psA L s4)) (fun _=>.inl rfl) (fun _ _ h=>h) ho.le ?_
   have hpl:AV.E7 [.d (.int .i64 12),.d (.str []),.d (.int .i64 0),.AO,v2,.AO]=exC (exN 12 0 (Ex.mk o nm u ns ks al::x3)):=by
    rw [exN,← F2]
    simp only [AV.E7,AV.plain,ho.own.plain,AE]
   refine Run.gH (L':=Aq 2 [.d (.int .i64 0),.d (.str []),.d (.int .i64 0),.AO,.AO,.AO] (Aq 3 (exC (exN 12 0 (Ex.mk o nm u ns ks al::x3))) Ab.E)) (fun q' cs' hq=>?_) (ih (s4,exN 12 0 (Ex.mk o nm u ns ks al::x3),q) ⟨h4,by simp only;omega,by simp only;omega,p4⟩ (by simp only;omega))
   by_cases e2:q'=2
   · subst e2
     exact ⟨cs',hq,.inl rfl⟩
   · by_cases e3:q'=3
     · subst e3
       have:cs'=exC (exN 12 0 (Ex.mk o nm u ns ks al::x3)):=(DK hq).symm
       exact ⟨_,rfl,.inr (by rw [this,hpl])⟩
     · simp [Aq,e2,e3,Ab.E] at hq
  (repeat' (first|refine ctQ rfl ?_|((first|refine rgQ mxQ ?_|refine cdQ ?_|(refine AD.upd c2 ?_))<;>try simp -implicitDefEqProofs only [go_sem])|fail))
  refine Run.Q8 mixed ?_;simp -implicitDefEqProofs only [go_sem]
  refine ⟨?_,?_⟩
  · refine Fh.own rfl (by decide) (fun tk htk=>?_);simp -implicitDefEqProofs only [go_sem]
    refine AD.upd (d3 tk) ?_;simp -implicitDefEqProofs only [go_sem]
    (apply LS.tok (LS.vL htk s4);rfl;exact (Ji _ _ Ex.vI);(simp only [AJ,AG,AI];omega);decide;intro v2 τ2 ho);simp -implicitDefEqProofs only [ho.own.cells,ho.own.cell,if_true,go_sem]
    (repeat' (first|refine ctQ rfl ?_|((first|refine rgQ mxQ ?_|refine cdQ ?_)<;>try simp -implicitDefEqProofs only [ho.own.w4,ho.own.plain,ho.own.dv,if_true,go_sem])|fail))
    exact hfin v2 τ2 (by rw [AB,Ex.AS];exact ho)
  · refine AD.upd c3 ?_;simp -implicitDefEqProofs only [go_sem]
    refine Fh.own rfl (by decide) (fun tk htk=>?_);simp -implicitDefEqProofs only [go_sem]
    (apply LS.tok (LS.dF htk);rfl;exact (Ji _ _ Ex.vI);(simp only [AJ,AG,AI];omega);decide;intro v2 τ2 ho);simp -implicitDefEqProofs only [ho.own.cells,ho.own.cell,if_true,go_sem]
    (repeat' (first|refine ctQ rfl ?_|((first|refine rgQ mxQ ?_|refine cdQ ?_)<;>try simp -implicitDefEqProofs only [ho.own.w4,ho.own.plain,ho.own.dv,if_true,go_sem])|fail))
    exact hfin v2 τ2 (by rw [AB,Ex.AS];exact ho)
end Go.Ab
namespace Go.Ab
open Go.Proofs
theorem Run.eM {cx:Cx} {KK:AV→AK→Prop} {k:List CI} {F:Fm} {σ1 τ2:AK} {c2 cs:List AV} {e:Ex} (hpl:AV.E7 cs=exC e) (hle:σ1.le τ2)
 (h:Run cx KK k F (Aq 2 c2 (Aq 3 (exC e) Ab.E)) σ1):Run cx KK k F (Aq 2 c2 (Aq 3 cs Ab.E)) τ2:=by
 refine Run.bZ (σ':=σ1) (fun _=>.inl rfl) (fun _ _ h=>h) hle ?_
 refine Run.gH (L':=Aq 2 c2 (Aq 3 (exC e) Ab.E)) (fun q' cs' hq=>?_) h
 by_cases e2:q'=2
 · subst e2
   exact ⟨cs',hq,.inl rfl⟩
 · by_cases e3:q'=3
   · subst e3
     have:cs'=exC e:=(DK hq).symm
     exact ⟨_,rfl,.inr (by rw [this,hpl])⟩
   · simp [Aq,e2,e3,Ab.E] at hq
theorem Run.ABS {cx:Cx} {KK:AV→AK→Prop} {k:List CI} {F:Fm} {σ1 τ2:AK} {c2:List AV} {v:AV} {l:List Ex} (hv:v.plain= .d (.sl (l.map Ex.enc))) (hle:σ1.le τ2)
 (h:Run cx KK k F (Aq 2 c2 (Aq 3 (exC (exN 12 0 l)) Ab.E)) σ1):Run cx KK k F (Aq 2 c2 (Aq 3 [.d (.int .i64 12),.d (.str []),.d (.int .i64 0),.AO,v,.AO] Ab.E)) τ2:=by
 refine Run.eM ?_ hle h
 rw [exN,← F2]
 simp only [AV.E7,AV.plain,hv,AE]
theorem AAM {E:RM Ex} {n:Nat} {a:Ex} {s:RSt} (hc:s.is [40]=true):(WH E (n+1) a).run s=(WH E n (exN 12 0 (a::((Mp E).run s.adv).1))).run ((Mp E).run s.adv).2:=if_pos hc
theorem AAL {E:RM Ex} {n:Nat} {a:Ex} {s:RSt} (hc:s.is [40]=false):(WH E (n+1) a).run s=(a,s):=if_neg (by rw [hc];decide)
set_option maxHeartbeats 4000000 in
theorem Yq (i:Nat) {L:List Tok} (hN:NOk L) (n:Nat) {E:RM Ex} (hE:RPC 35 [.gp i 0] i L n E exA):RPC 174 [.gp i 0] i L (n+1) (Q6 E) exA:=by
 intro σ s0 g0 h0 l0 b0
 refine YR (by simp) ?_
 rw [Ar]
 simp only [Q6,BD]
 (have c0:=(w6 i hN n hE) σ s0 g0 h0 (by omega) b0;have h1:=h0.run (YD E);have l1:=RM.le (YD E) h0.wf;generalize (YD E).run s0=y at c0 h1 l1 ⊢;obtain ⟨x0,s1⟩:=y;simp only at c0 h1 l1 ⊢;have b1:(σ.AH i (rsA L s1)).blk i=some (rsA L s1):=AX;obtain ⟨o0,n0,u0,ns0,ks0,al0⟩:=x0;simp only [exA,Ex.AS,AB,AE] at c0 ⊢)
 (repeat' (first|refine ctQ rfl ?_|((first|refine rgQ mxQ ?_|refine cdQ ?_|(refine AD.upd c0 ?_))<;>try simp -implicitDefEqProofs only [go_sem])|fail))
 rw [F2]
 refine Run.BU ?_
 have hf0:=Bo
 have hl0:=h0.suf.length_le
 have hl1:=h0.len
 refine Run.BZ (α:=RSt×Ex×Nat) (fun _=>put 0 (.gp i 0) (put 2 (.lp 2 0) (put 3 (.lp 3 0) U))) (fun y=>Aq 2 [.d (.int .i64 0),.d (.str []),.d (.int .i64 0),.AO,.AO,.AO] (Aq 3 (exC y.2.1) Ab.E)) (fun y=>σ.AH i (rsA L y.1)) (fun y=>ROk L y.1∧y.1.r.length≤n+1∧y.1.r.length≤y.2.2∧(WH E y.2.2 y.2.1).run y.1=(WH E Af (Ex.mk o0 n0 u0 ns0 ks0 al0)).run s1) (fun y=>y.1.r.length) ?_ (s1,(Ex.mk o0 n0 u0 ns0 ks0 al0),Af) ⟨h1,by simp only;omega,by simp only;omega,rfl⟩
 rintro ⟨s2,a,q⟩ ⟨p1,p2,p3,p4⟩ ih
 simp only at p1 p2 p3 p4
 have b2:(σ.AH i (rsA L s2)).blk i=some (rsA L s2):=AX
 obtain ⟨q,rfl⟩:∃m,q=m+1:=⟨q - 1,by have:=A5.2 p1.wf.ne;omega⟩
 obtain ⟨o,nm,u,ns,ks,al⟩:=a
 simp only [← F2]
 cases hc:s2.is [40] with
 |false=>
  rw [AAL hc] at p4
  rw [← p4]
  simp only [Ex.AS,AB,AE]
  (repeat' (first|refine ctQ rfl ?_|((first|refine rgQ mxQ ?_|refine cdQ ?_|refine Run.A2 RZ (AK.le_refl _) ?_|refine AD.det (CN p1 _ (σ.AH i (rsA L s2)) b2 hc) ?_)<;>try simp -implicitDefEqProofs only [go_sem])|fail))
 |true=>
  rw [AAM hc] at p4
  have h2:=p1
  (have c2:=CU h2 [40] (σ.AH i (rsA L s2)) b2 hc;rw [AN] at c2;have h3:=h2.adv (t:=[40]) (by decide) hc;have l3:=Am h2.wf;generalize s2.adv=s3 at c2 h3 l3 p4 ⊢;have b3:(σ.AH i (rsA L s3)).blk i=some (rsA L s3):=by rw [AZ,if_pos rfl])
  (repeat' (first|refine ctQ rfl ?_|((first|refine rgQ mxQ ?_|refine cdQ ?_|(refine AD.upd c2 ?_)|(refine Fh.own rfl (by decide) (fun tk htk=>?_)))<;>try simp -implicitDefEqProofs only [go_sem])|fail))
  have hl:=RS.dF (e:=44) (z:=6) (rows:=[[.int .i64 o,.str nm,.int .i64 u,.sl (ns.map Br),.sl (ks.map Ex.enc),.sl (al.map Al.enc)]]) htk
  generalize hτ:(σ.AH i (rsA L s3)).CO tk=τ at hl ⊢
  cases hp:s3.is [41] with
  |true=>
   rw [XL hp] at p4
   have e3:=CU h3 _ τ hl.blk hp
   have h4:=h3.adv trivial hp
   have l4:=Am h3.wf
   have hl2:=hl.step s3.adv
   generalize s3.adv=s4 at e3 h4 l4 hl2 p4
   (repeat' (first|refine ctQ rfl ?_|((first|refine rgQ mxQ ?_|refine cdQ ?_|(refine AD.upd e3 ?_))<;>try simp -implicitDefEqProofs only [hl.own.cells,hl.own.cell,go_sem])|fail))
   exact Run.ABS (l:=[Ex.mk o nm u ns ks al]) (by rw [hl2.own.plain,AB,AE,Ex.AS]) hl2.le (ih (s4,exN 12 0 [Ex.mk o nm u ns ks al],q) ⟨h4,by simp only;omega,by simp only;omega,p4⟩ (by simp only;omega))
  |false=>
   rw [XK hp] at p4
   have e3:=CN h3 _ τ hl.blk hp
   have c3:=(XM i L n hE).pc τ s3 trivial h3 (by omega) hl.blk
   have h4:=h3.run (BX E [44])
   have l4:=RM.le (BX E [44]) h3.wf
   have n4:=VM (read:=E) (t:=[44]) h3.wf
   have q3:=h3.suf.length_le
   have hl2:=hl.step ((BX E [44]).run s3).2
   generalize (BX E [44]).run s3=y at c3 h4 l4 n4 hl2 p4
   obtain ⟨x3,s4⟩:=y
   simp only at c3 h4 l4 n4 hl2 p4
   (repeat' (first|refine ctQ rfl ?_|((first|refine rgQ mxQ ?_|refine cdQ ?_|(refine AD.upd c3 ?_)|refine AD.det (e3) ?_)<;>try simp -implicitDefEqProofs only [go_sem])|fail))
   refine hl2.tok rfl (Ji _ _ Ex.vI) (by simp only [AJ,AG,AI];omega) (by decide) (fun v2 τ2 ho=>?_);simp -implicitDefEqProofs only [if_true,go_sem]
   have e4:=CT h4 [41] τ2 ho.blk
   have h5:=h4.run (RM.A9 [41])
   have l5:=RM.le (RM.A9 [41]) h4.wf
   have ho2:=ho.step ((RM.A9 [41]).run s4).2
   generalize ((RM.A9 [41]).run s4).2=s5 at e4 h5 l5 ho2 p4
   (repeat' (first|refine ctQ rfl ?_|((first|refine rgQ mxQ ?_|refine cdQ ?_|(refine AD.upd e4 ?_))<;>try simp -implicitDefEqProofs only [ho.own.cells,ho.own.cell,if_true,go_sem])|fail))
   exact Run.ABS (l:=Ex.mk o nm u ns ks al::x3) (by rw [ho2.own.plain,AB,Ex.AS];rfl) ho2.le (ih (s5,exN 12 0 (Ex.mk o nm u ns ks al::x3),q) ⟨h5,by simp only;omega,by simp only;omega,p4⟩ (by simp only;omega))
set_option maxHeartbeats 4000000 in
theorem aL (i:Nat) {L:List Tok} (hN:NOk L) (n:Nat) {E:RM Ex} (hE:RPC 35 [.gp i 0] i L n E exA):RPC 133 [.gp i 0] i L (n+1) (N6 E) exA:=by
 intro σ s0 g0 h0 l0 b0
 refine Ws (by simp) ?_
 rw [Ar]
 simp only [N6,BD]
 (have c0:=(Yq i hN n hE) σ s0 g0 h0 (by omega) b0;have h1:=h0.run (Q6 E);have l1:=RM.le (Q6 E) h0.wf;generalize (Q6 E).run s0=y at c0 h1 l1 ⊢;obtain ⟨x0,s1⟩:=y;simp only at c0 h1 l1 ⊢;have b1:(σ.AH i (rsA L s1)).blk i=some (rsA L s1):=AX;obtain ⟨o0,n0,u0,ns0,ks0,al0⟩:=x0;simp only [exA,Ex.AS,AB,AE] at c0 ⊢)
 (repeat' (first|refine ctQ rfl ?_|((first|refine rgQ mxQ ?_|refine cdQ ?_|(refine AD.upd c0 ?_))<;>try simp -implicitDefEqProofs only [go_sem])|fail))
 rw [F2]
 refine Run.BU ?_
 have hf0:=Bo
 have hl0:=h0.suf.length_le
 have hl1:=h0.len
 refine Run.BZ (α:=RSt×Ex×Nat) (fun _=>put 0 (.gp i 0) (put 2 (.lp 2 0) (put 3 (.lp 3 0) U))) (fun y=>Aq 2 [.d (.int .i64 0),.d (.str []),.d (.int .i64 0),.AO,.AO,.AO] (Aq 3 (exC y.2.1) Ab.E)) (fun y=>σ.AH i (rsA L y.1)) (fun y=>ROk L y.1∧y.1.r.length≤n+1∧y.1.r.length≤y.2.2∧(Q9 E y.2.2 y.2.1).run y.1=(Q9 E Af (Ex.mk o0 n0 u0 ns0 ks0 al0)).run s1) (fun y=>y.1.r.length) ?_ (s1,(Ex.mk o0 n0 u0 ns0 ks0 al0),Af) ⟨h1,by simp only;omega,by simp only;omega,rfl⟩
 rintro ⟨s2,a,q⟩ ⟨p1,p2,p3,p4⟩ ih
 simp only at p1 p2 p3 p4
 have b2:(σ.AH i (rsA L s2)).blk i=some (rsA L s2):=AX
 obtain ⟨q,rfl⟩:∃m,q=m+1:=⟨q - 1,by have:=A5.2 p1.wf.ne;omega⟩
 obtain ⟨o,nm,u,ns,ks,al⟩:=a
 simp only [← F2]
 rw [Q9] at p4
 simp only [H9,BD,BK] at p4
 have h2:=p1
 cases t0:s2.is [42] with
 |true=>
  simp only [t0,if_true] at p4
  (have c2:=CU h2 [42] (σ.AH i (rsA L s2)) b2 t0;rw [AN] at c2;have h3:=h2.adv (t:=[42]) (by decide) t0;have l3:=Am h2.wf;generalize s2.adv=s3 at c2 h3 l3 p4 ⊢;have b3:(σ.AH i (rsA L s3)).blk i=some (rsA L s3):=by rw [AZ,if_pos rfl])
  (have c3:=(Yq i hN n hE) (σ.AH i (rsA L s3)) s3 g0 h3 (by omega) b3;rw [AN] at c3;have h4:=h3.run (Q6 E);have l4:=RM.le (Q6 E) h3.wf;generalize (Q6 E).run s3=y at c3 h4 l4 p4 ⊢;obtain ⟨x3,s4⟩:=y;simp only at c3 h4 l4 p4 ⊢;have b4:(σ.AH i (rsA L s4)).blk i=some (rsA L s4):=AX;obtain ⟨o3,n3,u3,ns3,ks3,al3⟩:=x3;simp only [exA,Ex.AS,AB,AE] at c3 ⊢)
  (repeat' (first|refine ctQ rfl ?_|((first|refine rgQ mxQ ?_|refine cdQ ?_|(refine AD.upd c2 ?_)|(refine AD.upd c3 ?_))<;>try simp -implicitDefEqProofs only [go_sem])|fail))
  have hx:=F2 13 [] 3 [] [.mk o nm u ns ks al,(Ex.mk o3 n3 u3 ns3 ks3 al3)] []
  simp only [Ex.AS,AB,AE] at hx
  refine Run.eM (e:=E1 3 (.mk o nm u ns ks al) (Ex.mk o3 n3 u3 ns3 ks3 al3)) (by rw [E1,exN,← hx];rfl) (AK.le_refl _) ?_
  exact ih (s4,E1 3 (.mk o nm u ns ks al) (Ex.mk o3 n3 u3 ns3 ks3 al3),q) ⟨h4,by simp only;omega,by simp only;omega,p4⟩ (by simp only;omega)
 |false=>
 have f0:=CN h2 _ _ b2 t0
 cases t1:s2.is [47] with
 |true=>
  simp only [t0,t1,if_true,if_false,AL] at p4
  (have c2:=CU h2 [47] (σ.AH i (rsA L s2)) b2 t1;rw [AN] at c2;have h3:=h2.adv (t:=[47]) (by decide) t1;have l3:=Am h2.wf;generalize s2.adv=s3 at c2 h3 l3 p4 ⊢;have b3:(σ.AH i (rsA L s3)).blk i=some (rsA L s3):=by rw [AZ,if_pos rfl])
  (have c3:=(Yq i hN n hE) (σ.AH i (rsA L s3)) s3 g0 h3 (by omega) b3;rw [AN] at c3;have h4:=h3.run (Q6 E);have l4:=RM.le (Q6 E) h3.wf;generalize (Q6 E).run s3=y at c3 h4 l4 p4 ⊢;obtain ⟨x3,s4⟩:=y;simp only at c3 h4 l4 p4 ⊢;have b4:(σ.AH i (rsA L s4)).blk i=some (rsA L s4):=AX;obtain ⟨o3,n3,u3,ns3,ks3,al3⟩:=x3;simp only [exA,Ex.AS,AB,AE] at c3 ⊢)
  (repeat' (first|refine ctQ rfl ?_|((first|refine rgQ mxQ ?_|refine cdQ ?_|(refine AD.upd c2 ?_)|(refine AD.upd c3 ?_)|refine AD.det (f0) ?_)<;>try simp -implicitDefEqProofs only [go_sem])|fail))
  have hx:=F2 13 [] 4 [] [.mk o nm u ns ks al,(Ex.mk o3 n3 u3 ns3 ks3 al3)] []
  simp only [Ex.AS,AB,AE] at hx
  refine Run.eM (e:=E1 4 (.mk o nm u ns ks al) (Ex.mk o3 n3 u3 ns3 ks3 al3)) (by rw [E1,exN,← hx];rfl) (AK.le_refl _) ?_
  exact ih (s4,E1 4 (.mk o nm u ns ks al) (Ex.mk o3 n3 u3 ns3 ks3 al3),q) ⟨h4,by simp only;omega,by simp only;omega,p4⟩ (by simp only;omega)
 |false=>
 have f1:=CN h2 _ _ b2 t1
 cases t2:s2.is [37] with
 |true=>
  simp only [t0,t1,t2,if_true,if_false,AL] at p4
  (have c2:=CU h2 [37] (σ.AH i (rsA L s2)) b2 t2;rw [AN] at c2;have h3:=h2.adv (t:=[37]) (by decide) t2;have l3:=Am h2.wf;generalize s2.adv=s3 at c2 h3 l3 p4 ⊢;have b3:(σ.AH i (rsA L s3)).blk i=some (rsA L s3):=by rw [AZ,if_pos rfl])
  (have c3:=(Yq i hN n hE) (σ.AH i (rsA L s3)) s3 g0 h3 (by omega) b3;rw [AN] at c3;have h4:=h3.run (Q6 E);have l4:=RM.le (Q6 E) h3.wf;generalize (Q6 E).run s3=y at c3 h4 l4 p4 ⊢;obtain ⟨x3,s4⟩:=y;simp only at c3 h4 l4 p4 ⊢;have b4:(σ.AH i (rsA L s4)).blk i=some (rsA L s4):=AX;obtain ⟨o3,n3,u3,ns3,ks3,al3⟩:=x3;simp only [exA,Ex.AS,AB,AE] at c3 ⊢)
  (repeat' (first|refine ctQ rfl ?_|((first|refine rgQ mxQ ?_|refine cdQ ?_|(refine AD.upd c2 ?_)|(refine AD.upd c3 ?_)|refine AD.det (f0) ?_|refine AD.det (f1) ?_)<;>try simp -implicitDefEqProofs only [go_sem])|fail))
  have hx:=F2 13 [] 5 [] [.mk o nm u ns ks al,(Ex.mk o3 n3 u3 ns3 ks3 al3)] []
  simp only [Ex.AS,AB,AE] at hx
  refine Run.eM (e:=E1 5 (.mk o nm u ns ks al) (Ex.mk o3 n3 u3 ns3 ks3 al3)) (by rw [E1,exN,← hx];rfl) (AK.le_refl _) ?_
  exact ih (s4,E1 5 (.mk o nm u ns ks al) (Ex.mk o3 n3 u3 ns3 ks3 al3),q) ⟨h4,by simp only;omega,by simp only;omega,p4⟩ (by simp only;omega)
 |false=>
 have f2:=CN h2 _ _ b2 t2
 simp only [t0,t1,t2,if_false,AL] at p4
 rw [← p4]
 simp only [Ex.AS,AB,AE]
 (repeat' (first|refine ctQ rfl ?_|((first|refine rgQ mxQ ?_|refine cdQ ?_|refine Run.A2 PF (AK.le_refl _) ?_|refine AD.det (f0) ?_|refine AD.det (f1) ?_|refine AD.det (f2) ?_)<;>try simp -implicitDefEqProofs only [go_sem])|fail))
set_option maxHeartbeats 4000000 in
theorem Yt (i:Nat) {L:List Tok} (hN:NOk L) (n:Nat) {E:RM Ex} (hE:RPC 35 [.gp i 0] i L n E exA):RPC 78 [.gp i 0] i L (n+1) (Q7 E) exA:=by
 intro σ s0 g0 h0 l0 b0
 refine YS (by simp) ?_
 rw [Ar]
 simp only [Q7,BD]
 (have c0:=(aL i hN n hE) σ s0 g0 h0 (by omega) b0;have h1:=h0.run (N6 E);have l1:=RM.le (N6 E) h0.wf;generalize (N6 E).run s0=y at c0 h1 l1 ⊢;obtain ⟨x0,s1⟩:=y;simp only at c0 h1 l1 ⊢;have b1:(σ.AH i (rsA L s1)).blk i=some (rsA L s1):=AX;obtain ⟨o0,n0,u0,ns0,ks0,al0⟩:=x0;simp only [exA,Ex.AS,AB,AE] at c0 ⊢)
 (repeat' (first|refine ctQ rfl ?_|((first|refine rgQ mxQ ?_|refine cdQ ?_|(refine AD.upd c0 ?_))<;>try simp -implicitDefEqProofs only [go_sem])|fail))
 rw [F2]
 refine Run.BU ?_
 have hf0:=Bo
 have hl0:=h0.suf.length_le
 have hl1:=h0.len
 refine Run.BZ (α:=RSt×Ex×Nat) (fun _=>put 0 (.gp i 0) (put 2 (.lp 2 0) (put 3 (.lp 3 0) U))) (fun y=>Aq 2 [.d (.int .i64 0),.d (.str []),.d (.int .i64 0),.AO,.AO,.AO] (Aq 3 (exC y.2.1) Ab.E)) (fun y=>σ.AH i (rsA L y.1)) (fun y=>ROk L y.1∧y.1.r.length≤n+1∧y.1.r.length≤y.2.2∧(YG E y.2.2 y.2.1).run y.1=(YG E Af (Ex.mk o0 n0 u0 ns0 ks0 al0)).run s1) (fun y=>y.1.r.length) ?_ (s1,(Ex.mk o0 n0 u0 ns0 ks0 al0),Af) ⟨h1,by simp only;omega,by simp only;omega,rfl⟩
 rintro ⟨s2,a,q⟩ ⟨p1,p2,p3,p4⟩ ih
 simp only at p1 p2 p3 p4
 have b2:(σ.AH i (rsA L s2)).blk i=some (rsA L s2):=AX
 obtain ⟨q,rfl⟩:∃m,q=m+1:=⟨q - 1,by have:=A5.2 p1.wf.ne;omega⟩
 obtain ⟨o,nm,u,ns,ks,al⟩:=a
 simp only [← F2]
 rw [YG] at p4
 simp only [H9,BD,BK] at p4
 have h2:=p1
 cases t0:s2.is [43] with
 |true=>
  simp only [t0,if_true] at p4
  (have c2:=CU h2 [43] (σ.AH i (rsA L s2)) b2 t0;rw [AN] at c2;have h3:=h2.adv (t:=[43]) (by decide) t0;have l3:=Am h2.wf;generalize s2.adv=s3 at c2 h3 l3 p4 ⊢;have b3:(σ.AH i (rsA L s3)).blk i=some (rsA L s3):=by rw [AZ,if_pos rfl])
  (have c3:=(aL i hN n hE) (σ.AH i (rsA L s3)) s3 g0 h3 (by omega) b3;rw [AN] at c3;have h4:=h3.run (N6 E);have l4:=RM.le (N6 E) h3.wf;generalize (N6 E).run s3=y at c3 h4 l4 p4 ⊢;obtain ⟨x3,s4⟩:=y;simp only at c3 h4 l4 p4 ⊢;have b4:(σ.AH i (rsA L s4)).blk i=some (rsA L s4):=AX;obtain ⟨o3,n3,u3,ns3,ks3,al3⟩:=x3;simp only [exA,Ex.AS,AB,AE] at c3 ⊢)
  (repeat' (first|refine ctQ rfl ?_|((first|refine rgQ mxQ ?_|refine cdQ ?_|(refine AD.upd c2 ?_)|(refine AD.upd c3 ?_))<;>try simp -implicitDefEqProofs only [go_sem])|fail))
  have hx:=F2 13 [] 1 [] [.mk o nm u ns ks al,(Ex.mk o3 n3 u3 ns3 ks3 al3)] []
  simp only [Ex.AS,AB,AE] at hx
  refine Run.eM (e:=E1 1 (.mk o nm u ns ks al) (Ex.mk o3 n3 u3 ns3 ks3 al3)) (by rw [E1,exN,← hx];rfl) (AK.le_refl _) ?_
  exact ih (s4,E1 1 (.mk o nm u ns ks al) (Ex.mk o3 n3 u3 ns3 ks3 al3),q) ⟨h4,by simp only;omega,by simp only;omega,p4⟩ (by simp only;omega)
 |false=>
 have f0:=CN h2 _ _ b2 t0
 cases t1:s2.is [45] with
 |true=>
  simp only [t0,t1,if_true,if_false,AL] at p4
  (have c2:=CU h2 [45] (σ.AH i (rsA L s2)) b2 t1;rw [AN] at c2;have h3:=h2.adv (t:=[45]) (by decide) t1;have l3:=Am h2.wf;generalize s2.adv=s3 at c2 h3 l3 p4 ⊢;have b3:(σ.AH i (rsA L s3)).blk i=some (rsA L s3):=by rw [AZ,if_pos rfl])
  (have c3:=(aL i hN n hE) (σ.AH i (rsA L s3)) s3 g0 h3 (by omega) b3;rw [AN] at c3;have h4:=h3.run (N6 E);have l4:=RM.le (N6 E) h3.wf;generalize (N6 E).run s3=y at c3 h4 l4 p4 ⊢;obtain ⟨x3,s4⟩:=y;simp only at c3 h4 l4 p4 ⊢;have b4:(σ.AH i (rsA L s4)).blk i=some (rsA L s4):=AX;obtain ⟨o3,n3,u3,ns3,ks3,al3⟩:=x3;simp only [exA,Ex.AS,AB,AE] at c3 ⊢)
  (repeat' (first|refine ctQ rfl ?_|((first|refine rgQ mxQ ?_|refine cdQ ?_|(refine AD.upd c2 ?_)|(refine AD.upd c3 ?_)|refine AD.det (f0) ?_)<;>try simp -implicitDefEqProofs only [go_sem])|fail))
  have hx:=F2 13 [] 2 [] [.mk o nm u ns ks al,(Ex.mk o3 n3 u3 ns3 ks3 al3)] []
  simp only [Ex.AS,AB,AE] at hx
  refine Run.eM (e:=E1 2 (.mk o nm u ns ks al) (Ex.mk o3 n3 u3 ns3 ks3 al3)) (by rw [E1,exN,← hx];rfl) (AK.le_refl _) ?_
  exact ih (s4,E1 2 (.mk o nm u ns ks al) (Ex.mk o3 n3 u3 ns3 ks3 al3),q) ⟨h4,by simp only;omega,by simp only;omega,p4⟩ (by simp only;omega)
 |false=>
 have f1:=CN h2 _ _ b2 t1
 simp only [t0,t1,if_false,AL] at p4
 rw [← p4]
 simp only [Ex.AS,AB,AE]
 (repeat' (first|refine ctQ rfl ?_|((first|refine rgQ mxQ ?_|refine cdQ ?_|refine Run.A2 R0 (AK.le_refl _) ?_|refine AD.det (f0) ?_|refine AD.det (f1) ?_)<;>try simp -implicitDefEqProofs only [go_sem])|fail))
end Go.Ab
namespace Go.Ab
open Go.Proofs
theorem Run.z8 {cx:Cx} {KK:AV→AK→Prop} {k:List CI} {F:Fm} {σ1 τ2:AK} {c2 c9:List AV} {c0:Str} {v:AV} {vs:List Str} (hv:v.plain= .d (.sl (vs.map Br))) (hle:σ1.le τ2)
 (h:Run cx KK k F (Aq 2 c2 (Aq 9 c9 (Aq 10 [.d (.str c0),.d (.sl (vs.map Br)),.d (.int .i64 0),.d (.str []),.d (.int .i64 0),.d (.sl []),.d (.sl []),.d (.sl [])] Ab.E))) σ1):
 Run cx KK k F (Aq 2 c2 (Aq 9 c9 (Aq 10 [.d (.str c0),v,.d (.int .i64 0),.d (.str []),.d (.int .i64 0),.AO,.AO,.AO] Ab.E))) τ2:=by
 refine Run.bZ (σ':=σ1) (fun _=>.inl rfl) (fun _ _ h=>h) hle ?_
 refine Run.gH (fun q' cs' hq=>?_) h
 by_cases e10:q'=10
 · subst e10
   refine ⟨_,rfl,.inr ?_⟩
   have:cs'=[.d (.str c0),.d (.sl (vs.map Br)),.d (.int .i64 0),.d (.str []),.d (.int .i64 0),.d (.sl []),.d (.sl []),.d (.sl [])]:=(DK hq).symm
   rw [this]
   simp only [AV.E7,AV.plain,hv]
 · refine ⟨cs',?_,.inl rfl⟩
   simp only [Aq,e10,if_false] at hq ⊢
   exact hq
theorem wY (Q:AV→AK→Prop) (rest:List CI) (i:Nat) (L:List Tok) (n:Nat) {E:RM Ex} (hE:RPC 35 [.gp i 0] i L n E exA) (e0:List DV) (σ:AK) (s0:RSt) (h0:ROk L s0) (l0:s0.r.length≤n)
 (hfin:∀v τ,RS σ i L ((BX (XI E) [124]).run s0).2 112 8 (((BX (XI E) [124]).run s0).1.map Al.enc) v τ→
   Run EA Q rest (put 0 (.gp i 0) (put 2 (.lp 2 0) (put 9 (.lp 9 0) (put 135 (.d (.bool true)) U)))) (Aq 2 [.d (.int .i64 0),.d (.str []),.d (.int .i64 0),.AO,.AO,.AO] (Aq 9 [.d (.int .i64 10),.d (.str []),.d (.int .i64 0),.AO,.d (.sl [e0]),v] Ab.E)) τ):
 Run EA Q (.again MT::.blk 3::rest) (put 0 (.gp i 0) (put 2 (.lp 2 0) (put 9 (.lp 9 0) U))) (Aq 2 [.d (.int .i64 0),.d (.str []),.d (.int .i64 0),.AO,.AO,.AO] (Aq 9 [.d (.int .i64 10),.d (.str []),.d (.int .i64 0),.AO,.d (.sl [e0]),.AO] Ab.E)) (σ.AH i (rsA L s0)):=by
 have hf0:=Bo
 have hl0:=h0.suf.length_le
 have hl1:=h0.len
 refine Run.BZ (α:=RSt×List Al×Nat×AV×AK) (fun _=>put 0 (.gp i 0) (put 2 (.lp 2 0) (put 9 (.lp 9 0) U))) (fun y=>Aq 2 [.d (.int .i64 0),.d (.str []),.d (.int .i64 0),.AO,.AO,.AO] (Aq 9 [.d (.int .i64 10),.d (.str []),.d (.int .i64 0),.AO,.d (.sl [e0]),y.2.2.2.1] Ab.E)) (fun y=>y.2.2.2.2) (fun y=>ROk L y.1∧y.1.r.length≤n∧y.1.r.length≤y.2.2.1∧y.2.1.length+y.1.r.length≤17000∧RS σ i L y.1 112 8 (y.2.1.map Al.enc) y.2.2.2.1 y.2.2.2.2∧((XI E).bind fun x=>B5 (XI E) [124] y.2.2.1 (y.2.1++[x])).run y.1=(BX (XI E) [124]).run s0) (fun y=>y.1.r.length) ?_ (s0,[],Af,.AO,_) ⟨h0,l0,by simp only;omega,by simp;omega,RS.nil σ i L s0 _ _,rfl⟩
 rintro ⟨s1,l,q,v,τ⟩ ⟨p1,p2,p3,p4,p5,p6⟩ ih
 simp only at p1 p2 p3 p4 p5 p6
 rw [BD] at p6
 have hal:(XI E).run s1=_:=rfl
 conv at hal=>rhs;unfold XI
 simp only [BD,BK] at hal
 rw [hal] at p6
 clear hal
 have c1:=Pj i L n τ s1 trivial p1 p2 p5.blk
 have h2:=p1.run Fv
 have l2:=RM.le Fv p1.wf
 have p2a:=p5.step (Fv.run s1).2
 generalize Fv.run s1=y at c1 h2 l2 p2a p6
 obtain ⟨c0,s2⟩:=y
 simp only at c1 h2 l2 p2a p6
 cases hp:s2.is [40] with
 |false=>
  rw [WI hp] at p6
  simp only at p6
  have e2:=CN h2 _ _ p2a.blk hp
  have e5:=CT h2 [45,62] _ p2a.blk
  have h6:=h2.run (RM.A9 [45,62])
  have l6:=RM.le (RM.A9 [45,62]) h2.wf
  have p6a:=p5.step ((RM.A9 [45,62]).run s2).2
  generalize ((RM.A9 [45,62]).run s2).2=s6 at e5 h6 l6 p6a p6
  rw [AN] at e5
  have c6:=hE _ s6 trivial h6 (by omega) p6a.blk
  rw [AN] at c6
  have h7:=h6.run E
  have l7:=RM.le E h6.wf
  have p7a:=p5.step (E.run s6).2
  generalize E.run s6=y at c6 h7 l7 p7a p6
  obtain ⟨x6,s7⟩:=y
  simp only at c6 h7 l7 p7a p6
  obtain ⟨o6,n6,u6,ns6,ks6,al6⟩:=x6
  simp only [exA,Ex.AS,AB,AE] at c6
  (repeat' (first|refine ctQ rfl ?_|((first|refine rgQ mxQ ?_|refine cdQ ?_|(refine AD.upd c1 ?_)|(refine AD.upd e5 ?_)|(refine AD.upd c6 ?_)|refine AD.det (e2) ?_)<;>try simp -implicitDefEqProofs only [p5.own.cell,List.take,List.drop,A6,go_sem])|fail))
  refine p7a.tok rfl (by simp) (by simp;omega) (by decide) (fun v2 τ2 ho=>?_);simp -implicitDefEqProofs only [ho.own.cells,ho.own.cell,if_true,go_sem]
  have hrw:List.map Al.enc l++[[.str c0,.sl (([]:List Str).map Br),.int .i64 o6,.str n6,.int .i64 u6,.sl (ns6.map Br),.sl (ks6.map Ex.enc),.sl (al6.map Al.enc)]]=(l++[Al.mk c0 ([]:List Str) (.mk o6 n6 u6 ns6 ks6 al6)]).map Al.enc:=by
   simp only [Ax,AB,AE,Al.AS]
  try simp only [AE] at hrw
  rw [hrw] at ho
  have hql:1≤s7.r.length:=A5.2 h7.wf.ne
  obtain ⟨q,rfl⟩:∃m,q=m+1:=⟨q - 1,by omega⟩
  cases hb:s7.is [124] with
  |true=>
   rw [Fw hb] at p6
   have e8:=CU h7 _ τ2 ho.blk hb
   have h8:=h7.adv trivial hb
   have l8:=Am h7.wf
   have ho8:=ho.step s7.adv
   generalize s7.adv=s8 at e8 h8 l8 ho8 p6
   (repeat' (first|refine ctQ rfl ?_|((first|refine rgQ mxQ ?_|refine cdQ ?_|(refine AD.upd e8 ?_))<;>try simp -implicitDefEqProofs only [if_true,go_sem])|fail))
   refine Run.Lg [0,2,9] ?_;simp -implicitDefEqProofs only [go_sem]
   refine ih (s8,_,q,v2,_) ⟨h8,by simp only;omega,by simp only;omega,by simp only [AA,AG,AI];omega,ho8,p6⟩ (by simp only;omega)
  |false=>
   rw [FP hb] at p6
   have e8:=CN h7 _ τ2 ho.blk hb
   rw [← p6] at hfin
   (repeat' (first|refine ctQ rfl ?_|((first|refine rgQ mxQ ?_|refine cdQ ?_|refine AD.det (e8) ?_)<;>try simp -implicitDefEqProofs only [if_true,go_sem])|fail))
   exact hfin v2 τ2 ho
 |true=>
  rw [WJ hp,GR,Ig] at p6
  simp only at p6
  have e2:=CU h2 _ _ p2a.blk hp
  rw [AN] at e2
  have h3:=h2.adv trivial hp
  have l3:=Am h2.wf
  have p3a:=p5.step s2.adv
  generalize s2.adv=s3 at e2 h3 l3 p3a p6
  have c3:=N7 i L n _ s3 trivial h3 (by omega) p3a.blk
  rw [AN] at c3
  have h4:=h3.run De
  have l4:=RM.le De h3.wf
  generalize De.run s3=y at c3 h4 l4 p6
  obtain ⟨x3,s4⟩:=y
  simp only at c3 h4 l4 p6
  (repeat' (first|refine ctQ rfl ?_|((first|refine rgQ mxQ ?_|refine cdQ ?_|(refine AD.upd c1 ?_)|(refine AD.upd e2 ?_)|(refine AD.upd c3 ?_))<;>try simp -implicitDefEqProofs only [go_sem])|fail))
  refine (RS.nil τ i L s4 _ _).tok rfl (by simp) (by simp) (by decide) (fun v3 τ3 ho=>?_);simp -implicitDefEqProofs only [ho.own.cells,ho.own.cell,if_true,go_sem]
  (repeat' (first|refine ctQ rfl ?_|((first|refine rgQ mxQ ?_|refine cdQ ?_)<;>try simp -implicitDefEqProofs only [ho.own.w4,ho.own.plain,ho.own.dv,if_true,p5.own.w4,A6,go_sem])|fail))
  rw [A6] at ho
  refine Run.BU ?_
  have hx1:[[DV.str x3]]=[x3].map Br:=rfl
  rw [hx1] at ho
  clear hx1
  refine Run.BZ (α:=RSt×List Str×Nat×AV×AK) (fun _=>put 0 (.gp i 0) (put 2 (.lp 2 0) (put 9 (.lp 9 0) (put 10 (.lp 10 0) U)))) (fun y=>Aq 2 [.d (.int .i64 0),.d (.str []),.d (.int .i64 0),.AO,.AO,.AO] (Aq 9 [.d (.int .i64 10),.d (.str []),.d (.int .i64 0),.AO,.d (.sl [e0]),v] (Aq 10 [.d (.str c0),y.2.2.2.1,.d (.int .i64 0),.d (.str []),.d (.int .i64 0),.AO,.AO,.AO] Ab.E))) (fun y=>y.2.2.2.2) (fun y=>ROk L y.1∧y.1.r.length≤s4.r.length∧y.1.r.length≤y.2.2.1∧y.2.1.length+y.1.r.length≤17001∧RS τ i L y.1 9 1 (y.2.1.map Br) y.2.2.2.1 y.2.2.2.2∧(B5 De [44] y.2.2.1 y.2.1).run y.1=(B5 De [44] Af [x3]).run s4) (fun y=>y.1.r.length) ?_ (s4,[x3],Af,v3,τ3) ⟨h4,by simp only;omega,by simp only;omega,by simp only [AG,AI];omega,ho,rfl⟩
  clear ho v3 τ3
  rintro ⟨s5,vs,q5,v5,τ5⟩ ⟨g1,g2,g3,g4,g5,g6⟩ ih2
  simp only at g1 g2 g3 g4 g5 g6
  obtain ⟨q5,rfl⟩:∃m,q5=m+1:=⟨q5 - 1,by have:=A5.2 g1.wf.ne;omega⟩
  cases hcc:s5.is [44] with
  |true=>
   rw [Fw hcc] at g6
   have d1:=CU g1 _ τ5 g5.blk hcc
   have g1a:=g1.adv (t:=[44]) trivial hcc
   have hal:=Am g1.wf
   have hst0:=g5.step s5.adv
   generalize s5.adv=s6 at d1 g1a hal hst0 g6
   have d2:=N7 i L n _ s6 trivial g1a (by omega) hst0.blk
   rw [AN] at d2
   have h1':=g1a.run De
   have hle:=RM.le De g1a.wf
   have hst:=g5.step (De.run s6).2
   generalize De.run s6=y at d2 h1' hle g6 hst
   obtain ⟨x6,s7⟩:=y
   simp only at d2 h1' hle g6 hst
   (repeat' (first|refine ctQ rfl ?_|((first|refine rgQ mxQ ?_|refine cdQ ?_|(refine AD.upd d1 ?_)|(refine AD.upd d2 ?_))<;>try simp -implicitDefEqProofs only [g5.own.cell,go_sem])|fail))
   refine hst.tok rfl (by simp) (by simp;omega) (by decide) (fun v2 τ2 ho=>?_);simp -implicitDefEqProofs only [ho.own.cells,ho.own.cell,if_true,go_sem]
   try (repeat' (first|refine ctQ rfl ?_|((first|refine rgQ mxQ ?_|refine cdQ ?_)<;>try simp -implicitDefEqProofs only [ho.own.w4,ho.own.plain,ho.own.dv,if_true,p5.own.w4,go_sem])|fail))
   refine ih2 (s7,vs++[x6],q5,v2,τ2) ⟨h1',by simp only;omega,by simp only;omega,by simp only [AA,AG,AI];omega,?_,g6⟩ (by simp only;omega)
   simp only [Ax,AB,AE,Br]
   exact ho
  |false=>
   rw [FP hcc] at g6
   rw [← g6] at p6
   simp only at p6
   have d1:=CN g1 _ τ5 g5.blk hcc
   have d2:=CT g1 [41] τ5 g5.blk
   have g5a:=g5.step ((RM.A9 [41]).run s5).2
   have h5:=g1.run (RM.A9 [41])
   have l5:=RM.le (RM.A9 [41]) g1.wf
   generalize ((RM.A9 [41]).run s5).2=s5b at d2 g5a h5 l5 p6
   clear ih2
   have p5b:=p5.step s5b
   have e5:=CT h5 [45,62] _ p5b.blk
   have h6:=h5.run (RM.A9 [45,62])
   have l6:=RM.le (RM.A9 [45,62]) h5.wf
   have p6a:=p5.step ((RM.A9 [45,62]).run s5b).2
   generalize ((RM.A9 [45,62]).run s5b).2=s6 at e5 h6 l6 p6a p6
   rw [AN] at e5
   have c6:=hE _ s6 trivial h6 (by omega) p6a.blk
   rw [AN] at c6
   have h7:=h6.run E
   have l7:=RM.le E h6.wf
   have p7a:=p5.step (E.run s6).2
   generalize E.run s6=y at c6 h7 l7 p7a p6
   obtain ⟨x6,s7⟩:=y
   simp only at c6 h7 l7 p7a p6
   obtain ⟨o6,n6,u6,ns6,ks6,al6⟩:=x6
   simp only [exA,Ex.AS,AB,AE] at c6
   (repeat' (first|(refine Run.z8 g5.own.plain g5a.le ?_)|refine ctQ rfl ?_|((first|refine rgQ mxQ ?_|refine cdQ ?_|(refine AD.upd d2 ?_)|(refine AD.upd e5 ?_)|(refine AD.upd c6 ?_)|refine AD.det (d1) ?_)<;>try simp -implicitDefEqProofs only [p5.own.cell,List.take,List.drop,A6,go_sem])|fail))
   refine p7a.tok rfl (by simp) (by simp;omega) (by decide) (fun v2 τ2 ho=>?_);simp -implicitDefEqProofs only [ho.own.cells,ho.own.cell,if_true,go_sem]
   have hrw:List.map Al.enc l++[[.str c0,.sl (vs.map Br),.int .i64 o6,.str n6,.int .i64 u6,.sl (ns6.map Br),.sl (ks6.map Ex.enc),.sl (al6.map Al.enc)]]=(l++[Al.mk c0 vs (.mk o6 n6 u6 ns6 ks6 al6)]).map Al.enc:=by
    simp only [Ax,AB,AE,Al.AS]
   try simp only [AE] at hrw
   rw [hrw] at ho
   have hql:1≤s7.r.length:=A5.2 h7.wf.ne
   obtain ⟨q,rfl⟩:∃m,q=m+1:=⟨q - 1,by omega⟩
   cases hb:s7.is [124] with
   |true=>
    rw [Fw hb] at p6
    have e8:=CU h7 _ τ2 ho.blk hb
    have h8:=h7.adv trivial hb
    have l8:=Am h7.wf
    have ho8:=ho.step s7.adv
    generalize s7.adv=s8 at e8 h8 l8 ho8 p6
    (repeat' (first|refine ctQ rfl ?_|((first|refine rgQ mxQ ?_|refine cdQ ?_|(refine AD.upd e8 ?_))<;>try simp -implicitDefEqProofs only [if_true,go_sem])|fail))
    refine Run.Lg [0,2,9] ?_;simp -implicitDefEqProofs only [go_sem]
    refine ih (s8,_,q,v2,_) ⟨h8,by simp only;omega,by simp only;omega,by simp only [AA,AG,AI];omega,ho8,p6⟩ (by simp only;omega)
   |false=>
    rw [FP hb] at p6
    have e8:=CN h7 _ τ2 ho.blk hb
    rw [← p6] at hfin
    (repeat' (first|refine ctQ rfl ?_|((first|refine rgQ mxQ ?_|refine cdQ ?_|refine AD.det (e8) ?_)<;>try simp -implicitDefEqProofs only [if_true,go_sem])|fail))
    exact hfin v2 τ2 ho
end Go.Ab
