/- The parser: applications, products, sums, comparisons. The parser: products, sums, comparisons, binders, expressions. The parser: comparisons, binders, expressions. Conditions: none. -/
import Derived.Test.YtifplkldbbcldaaGreatDoorXUf
set_option linter.unusedSimpArgs false
set_option linter.unusedVariables false
set_option maxRecDepth 4000
set_option maxHeartbeats 8000000
open List renaming all_eq_true→A4,getElem_of_mem→CW,getElem?_eq_getElem→Ao,mem_of_getElem?→Ai,map_cons→AE,map_nil→AH,length_pos_iff→Ap,length_map→AI,length_cons→AD,length_nil→AF
open Option renaming map_some→CQ
open Option.some renaming injEq→AP,inj→GI
open Bool renaming false_eq_true→AY
namespace Go.Ab
open Go.Proofs
theorem Run.l9 {cx:Cx} {KK:AV→AN→Prop} {k:List CI} {F:Fm} {L L':Lm} {σ:AN} (hL:∀q cs',L' q=some cs'→∃cs,L q=some cs∧(cs'=cs∨cs'=AV.Eb cs)) (h:Run cx KK k F L' σ):Run cx KK k F L σ:=by
 intro items base g lam Pr a w0 w b cs0 hi0 hf hb hk
 refine h items base g lam Pr a w0 w b cs0 hi0 ⟨hf.tm,hf.sz,hf.df,fun q cs' hq=>?_,hf.inj,hf.npr,hf.rel⟩ hb hk
 obtain ⟨cs,hc,hp⟩:=hL q cs' hq
 obtain ⟨hok,b',vs,ty,h1,h2,h3,h4⟩:=hf.loc q cs hc
 refine ⟨?_,b',vs,ty,h1,h2,h3,?_⟩
 · rcases hp with rfl|rfl
   · exact hok
   · simp only [Ad,A4] at hok ⊢
     intro v hv
     obtain ⟨i,hi,rfl⟩:=CW hv
     have h1:=MF cs i
     rw [Ao hi] at h1
     cases hcs:cs[i]? with
     |none=>rw [hcs] at h1;cases h1
     |some c'=>rw [hcs] at h1;simp only [CQ,AP] at h1;rw [h1];exact WJ (hok c' (Ai hcs))
 · rcases hp with rfl|rfl
   · exact h4
   · exact h4.plain
def exC (e:Ex):List AV:=e.enc.map AV.d
theorem OM (o:Int) (n:Str) (u:Int) (ns:List Str) (ks:List Ex) (al:List Al):[AV.d (.int .i64 o),.d (.str n),.d (.int .i64 u),.d (.sl (ns.map Et)),.d (.sl (ks.map Ex.enc)),.d (.sl (al.map Al.enc))]=exC (.mk o n u ns ks al):=by
 rw [exC,Ex.A3];rfl
theorem Ve (i:Nat) (L:List Tok) (n:Nat) {E:PM Ex} (hE:PC 131 [.gp i 0] i L n E exA):PC 208 [.gp i 0,.fn 131 [.gp i 0] []] i L n (closed E) (fun l=>.d (.sl (l.map Ex.enc))):=(SX i L n VL hE).pc
theorem r7 {E:PM Ex} {n:Nat} {a:Ex} {s:PSt} (hc:(s.hd.text==[40])=true):(SQ E (n+1) a).run s=(SQ E n (exN 12 0 (a::((closed E).run s.adv).1))).run ((closed E).run s.adv).2:=if_pos hc
theorem r4 {E:PM Ex} {n:Nat} {a:Ex} {s:PSt} (hc:(s.hd.text==[40])=false):(SQ E (n+1) a).run s=(a,s):=if_neg (by rw [hc];decide)
set_option maxHeartbeats 2000000 in
theorem jX (i:Nat) {L:List Tok} (hN:NOk L) (n:Nat) {E:PM Ex} (hE:PC 131 [.gp i 0] i L n E exA):PC 204 [.gp i 0] i L (n+1) (P3 E) exA:=by
 intro σ s0 g0 h0 l0 b0
 refine R1 (by simp) ?_
 rw [BM]
 simp only [P3,run_bind]
 (have c0:=(pV i hN n hE) σ s0 g0 h0 (by omega) b0;have h1:=h0.run (Hp E);have l1:=PM.le (Hp E) h0.wf;generalize (Hp E).run s0=y at c0 h1 l1 ⊢;obtain ⟨x0,s1⟩:=y;simp only at c0 h1 l1 ⊢;have b1:(σ.AL i (psA L s1)).blk i=some (psA L s1):=(by rw [AO,if_pos rfl]);obtain ⟨o0,n0,u0,ns0,ks0,al0⟩:=x0;simp only [exA,Ex.A3,AE,AH] at c0 ⊢)
 (repeat' (first|refine Run.ct rfl ?_|((first|refine Run.reg mixed ?_|refine Run.AM ?_|(refine AG.upd c0 ?_)|(refine AQ rfl (fun h=>?_) (fun h=>?_)<;>try (cases h;done)))<;>try simp -implicitDefEqProofs only [go_sem])|(refine ⟨fun h=>?_,fun h=>?_⟩<;>first|(cases h;done)|try simp only [h])|fail))
 rw [OM]
 refine Run.Cm ?_
 have hf0:=FC
 have hl0:=h0.suf.length_le
 have hl1:=h0.len
 refine Run.Cn (α:=PSt×Ex×Nat) (fun _=>put 0 (.gp i 0) (put 2 (.lp 2 0) (put 3 (.lp 3 0) U))) (fun y=>Bd 2 [.d (.int .i64 0),.d (.str []),.d (.int .i64 0),.AU,.AU,.AU] (Bd 3 (exC y.2.1) Ab.E)) (fun y=>σ.AL i (psA L y.1)) (fun y=>POk L y.1∧y.1.r.length≤n+1∧y.1.r.length≤y.2.2∧(SQ E y.2.2 y.2.1).run y.1=(SQ E BB (Ex.mk o0 n0 u0 ns0 ks0 al0)).run s1) (fun y=>y.1.r.length) ?_ (s1,(Ex.mk o0 n0 u0 ns0 ks0 al0),BB) ⟨h1,by simp only;omega,by simp only;omega,rfl⟩
 rintro ⟨s2,a,q⟩ ⟨p1,p2,p3,p4⟩ ih
 simp only at p1 p2 p3 p4
 have b2:(σ.AL i (psA L s2)).blk i=some (psA L s2):=(by rw [AO,if_pos rfl])
 obtain ⟨q,rfl⟩:∃m,q=m+1:=⟨q - 1,by have:=Ap.2 p1.wf.ne;omega⟩
 have hlen:=SY (read:=E) (s:=s2.adv)
 obtain ⟨o,nm,u,ns,ks,al⟩:=a
 simp only [← OM]
 cases hc:s2.hd.text==[40] with
 |false=>
  rw [r4 hc] at p4
  rw [← p4]
  simp only [exA,exN,Ex.A3,AE,AH]
  (repeat' (first|refine Run.ct rfl ?_|((first|refine Run.reg mixed ?_|refine Run.AM ?_|refine Run.Af LA (AN.le_refl _) ?_|refine AG.det (Ci p1 _ (σ.AL i (psA L s2)) b2 hc) ?_|(refine AQ rfl (fun h=>?_) (fun h=>?_)<;>try (cases h;done)))<;>try simp -implicitDefEqProofs only [go_sem])|(refine ⟨fun h=>?_,fun h=>?_⟩<;>first|(cases h;done)|try simp only [h])|fail))
 |true=>
  rw [r7 hc] at p4
  have h2:=p1
  (have c2:=Cj h2 [40] (σ.AL i (psA L s2)) b2 hc;rw [A0] at c2;have h3:=h2.adv (t:=[40]) (by decide) hc;have l3:=BN h2.wf;generalize s2.adv=s3 at c2 h3 l3 p4 ⊢;have b3:(σ.AL i (psA L s3)).blk i=some (psA L s3):=by rw [AO,if_pos rfl])
  have d3:=fun tk:Nat=>Ve i L n hE ((σ.AL i (psA L s3)).DF tk) s3 g0 h3 (by omega) (by rw [F2];exact b3)
  have c3:=Ve i L n hE (σ.AL i (psA L s3)) s3 g0 h3 (by omega) b3
  rw [A0] at c3
  have h4:=h3.run (closed E)
  have l4:=PM.le (closed E) h3.wf
  have n3:=SY (read:=E) h3.wf
  generalize (closed E).run s3=y at c3 d3 h4 l4 n3 p4
  obtain ⟨x3,s4⟩:=y
  simp only at c3 d3 h4 l4 n3 p4
  have q3:=h3.suf.length_le
  have hfin:∀v2 τ2,LS σ i L s4 44 6 ((Ex.mk o nm u ns ks al::x3).map Ex.enc) v2 τ2→Run DD (fun v σ'=>v= .agg (((SQ E BB (Ex.mk o0 n0 u0 ns0 ks0 al0)).run s1).1.enc.map AV.d)∧σ'=σ.AL i (psA L ((SQ E BB (Ex.mk o0 n0 u0 ns0 ks0 al0)).run s1).2))
   [CI.again IM,CI.blk 0,CI.code ((C.reg [⟨some 16,.ldl (.t 3) (some 6),none⟩,⟨none,.st (.t 2) (.t 16) 6,none⟩] [2]).seq C.ret)]
   (put 0 (.gp i 0) (put 2 (.lp 2 0) (put 3 (.lp 3 0) U))) (Bd 2 [.d (.int .i64 0),.d (.str []),.d (.int .i64 0),.AU,.AU,.AU] (Bd 3 [.d (.int .i64 12),.d (.str []),.d (.int .i64 0),.AU,v2,.AU] Ab.E)) τ2:=fun v2 τ2 ho=>by
   refine Run.dG (σ':=σ.AL i (psA L s4)) (fun _=>.inl rfl) (fun _ _ h=>h) ho.le ?_
   have hpl:AV.Eb [.d (.int .i64 12),.d (.str []),.d (.int .i64 0),.AU,v2,.AU]=exC (exN 12 0 (Ex.mk o nm u ns ks al::x3)):=by
    rw [exN,← OM]
    simp only [AV.Eb,AV.plain,ho.own.plain,AH]
   refine Run.l9 (L':=Bd 2 [.d (.int .i64 0),.d (.str []),.d (.int .i64 0),.AU,.AU,.AU] (Bd 3 (exC (exN 12 0 (Ex.mk o nm u ns ks al::x3))) Ab.E)) (fun q' cs' hq=>?_) (ih (s4,exN 12 0 (Ex.mk o nm u ns ks al::x3),q) ⟨h4,by simp only;omega,by simp only;omega,p4⟩ (by simp only;omega))
   by_cases e2:q'=2
   · subst e2
     exact ⟨cs',hq,.inl rfl⟩
   · by_cases e3:q'=3
     · subst e3
       have:cs'=exC (exN 12 0 (Ex.mk o nm u ns ks al::x3)):=(GI hq).symm
       exact ⟨_,rfl,.inr (by rw [this,hpl])⟩
     · simp [Bd,e2,e3,Ab.E] at hq
  (repeat' (first|refine Run.ct rfl ?_|((first|refine Run.reg mixed ?_|refine Run.AM ?_|(refine AG.upd c2 ?_)|(refine AQ rfl (fun h=>?_) (fun h=>?_)<;>try (cases h;done)))<;>try simp -implicitDefEqProofs only [go_sem])|(refine ⟨fun h=>?_,fun h=>?_⟩<;>first|(cases h;done)|try simp only [h])|fail))
  refine Run.Q9 mixed ?_;simp -implicitDefEqProofs only [go_sem]
  refine ⟨?_,?_⟩
  · refine Hb.own rfl (by decide) (fun tk htk=>?_);simp -implicitDefEqProofs only [go_sem]
    refine AG.upd (d3 tk) ?_;simp -implicitDefEqProofs only [go_sem]
    (apply LS.tok (LS.pA htk s4);rfl;exact (MH _ _ Ex.oV);(simp only [AI,AD,AF];omega);decide;intro v2 τ2 ho);simp -implicitDefEqProofs only [ho.own.BO,ho.own.As,ho.own.cells,ho.own.cell,ho.own.plain,ho.own.dv,if_true,go_sem]
    (repeat' (first|refine Run.ct rfl ?_|((first|refine Run.reg mixed ?_|refine Run.AM ?_|(refine AQ rfl (fun h=>?_) (fun h=>?_)<;>try (cases h;done)))<;>try simp -implicitDefEqProofs only [ho.own.BO,ho.own.As,ho.own.cells,ho.own.cell,ho.own.plain,ho.own.dv,if_true,go_sem])|(refine ⟨fun h=>?_,fun h=>?_⟩<;>first|(cases h;done)|try simp only [h])|fail))
    exact hfin v2 τ2 (by rw [AE,Ex.A3];exact ho)
  · refine AG.upd c3 ?_;simp -implicitDefEqProofs only [go_sem]
    refine Hb.own rfl (by decide) (fun tk htk=>?_);simp -implicitDefEqProofs only [go_sem]
    (apply LS.tok (LS.o9 htk);rfl;exact (MH _ _ Ex.oV);(simp only [AI,AD,AF];omega);decide;intro v2 τ2 ho);simp -implicitDefEqProofs only [ho.own.BO,ho.own.As,ho.own.cells,ho.own.cell,ho.own.plain,ho.own.dv,if_true,go_sem]
    (repeat' (first|refine Run.ct rfl ?_|((first|refine Run.reg mixed ?_|refine Run.AM ?_|(refine AQ rfl (fun h=>?_) (fun h=>?_)<;>try (cases h;done)))<;>try simp -implicitDefEqProofs only [ho.own.BO,ho.own.As,ho.own.cells,ho.own.cell,ho.own.plain,ho.own.dv,if_true,go_sem])|(refine ⟨fun h=>?_,fun h=>?_⟩<;>first|(cases h;done)|try simp only [h])|fail))
    exact hfin v2 τ2 (by rw [AE,Ex.A3];exact ho)
end Go.Ab
namespace Go.Ab
open Go.Proofs
theorem Xn (lv:Nat) (t:Str):∀n k,k+n≤9→J1 lv t n k≤8
 |0,k,_=>by rw [J1];omega
 |n+1,k,h=>by
  rw [J1];split
  · omega
  · exact Xn lv t n (k+1) (by omega)
theorem lY (lv:Nat) (t:Str):opR lv t≤8:=Xn lv t 8 1 (by omega)
theorem Xo {lv:Nat} {t:Str}:∀ {n k:Nat},J1 lv t n k≠0→∃x,x≠[]∧(t==x)=true
 |0,k,h=>by rw [J1] at h;exact absurd rfl h
 |n+1,k,h=>by
  rw [J1] at h;split at h
  · rename_i hh
    refine ⟨_,?_,hh.2⟩
    unfold opT TZ
    split<;>simp
  · exact Xo h
theorem cB {lv:Nat} {t:Str} (h:opR lv t≠0):∃x,x≠[]∧(t==x)=true:=Xo h
theorem pX {E:PM Ex} {n:Nat} {a:Ex} {s:PSt} (hc:opR 3 s.hd.text≠0):(JO E (n+1) a).run s=(JO E n (Gu ((opR 3 s.hd.text:Nat):Int) a ((P3 E).run s.adv).1)).run ((P3 E).run s.adv).2:=by
 rw [JO]
 simp only [Gg,run_bind]
 rw [vO] at hc ⊢
 cases h0:s.hd.text==[42] with
 |true=>simp
 |false=>
 cases h1:s.hd.text==[47] with
 |true=>simp
 |false=>
 cases h2:s.hd.text==[37] with
 |true=>simp
 |false=>
 simp [h0,h1,h2] at hc
theorem pW {E:PM Ex} {n:Nat} {a:Ex} {s:PSt} (hc:opR 3 s.hd.text=0):(JO E (n+1) a).run s=(a,s):=by
 rw [JO]
 simp only [Gg,run_pure]
 rw [vO] at hc
 cases h0:s.hd.text==[42] with
 |true=>simp [h0] at hc
 |false=>
 cases h1:s.hd.text==[47] with
 |true=>simp [h0,h1] at hc
 |false=>
 cases h2:s.hd.text==[37] with
 |true=>simp [h0,h1,h2] at hc
 |false=>
 simp
set_option maxHeartbeats 2000000 in
theorem eX (i:Nat) {L:List Tok} (hN:NOk L) (n:Nat) {E:PM Ex} (hE:PC 131 [.gp i 0] i L n E exA):PC 197 [.gp i 0] i L (n+1) (LF E) exA:=by
 intro σ s0 g0 h0 l0 b0
 refine QR (by simp) ?_
 rw [BM]
 simp only [LF,run_bind]
 (have c0:=(jX i hN n hE) σ s0 g0 h0 (by omega) b0;have h1:=h0.run (P3 E);have l1:=PM.le (P3 E) h0.wf;generalize (P3 E).run s0=y at c0 h1 l1 ⊢;obtain ⟨x0,s1⟩:=y;simp only at c0 h1 l1 ⊢;have b1:(σ.AL i (psA L s1)).blk i=some (psA L s1):=(by rw [AO,if_pos rfl]);obtain ⟨o0,n0,u0,ns0,ks0,al0⟩:=x0;simp only [exA,Ex.A3,AE,AH] at c0 ⊢)
 have c1:=KL h1 3 (σ.AL i (psA L s1)) b1
 rw [A0] at c1
 (repeat' (first|refine Run.ct rfl ?_|((first|refine Run.reg mixed ?_|refine Run.AM ?_|(refine AG.upd c0 ?_)|(refine AG.upd c1 ?_)|(refine AQ rfl (fun h=>?_) (fun h=>?_)<;>try (cases h;done)))<;>try simp -implicitDefEqProofs only [go_sem])|(refine ⟨fun h=>?_,fun h=>?_⟩<;>first|(cases h;done)|try simp only [h])|fail))
 rw [OM]
 refine Run.Cm ?_
 have hf0:=FC
 have hl0:=h0.suf.length_le
 have hl1:=h0.len
 refine Run.Cn (α:=PSt×Ex×Nat) (fun y=>put 0 (.gp i 0) (put 2 (.lp 2 0) (put 3 (.lp 3 0) (put 4 (.d (.int .i64 ((opR 3 y.1.hd.text:Nat):Int))) U)))) (fun y=>Bd 2 [.d (.int .i64 0),.d (.str []),.d (.int .i64 0),.AU,.AU,.AU] (Bd 3 (exC y.2.1) Ab.E)) (fun y=>if opR 3 y.1.hd.text=0 then σ.AL i (psA L y.1) else σ.AL i (psA L y.1.adv)) (fun y=>POk L y.1∧y.1.r.length≤n+1∧y.1.r.length≤y.2.2∧(JO E y.2.2 y.2.1).run y.1=(JO E BB (Ex.mk o0 n0 u0 ns0 ks0 al0)).run s1) (fun y=>y.1.r.length) ?_ (s1,(Ex.mk o0 n0 u0 ns0 ks0 al0),BB) ⟨h1,by simp only;omega,by simp only;omega,rfl⟩
 rintro ⟨s2,a,q⟩ ⟨p1,p2,p3,p4⟩ ih
 simp only at p1 p2 p3 p4
 have b2:(σ.AL i (psA L s2)).blk i=some (psA L s2):=(by rw [AO,if_pos rfl])
 obtain ⟨q,rfl⟩:∃m,q=m+1:=⟨q - 1,by have:=Ap.2 p1.wf.ne;omega⟩
 obtain ⟨o,nm,u,ns,ks,al⟩:=a
 simp only [← OM]
 by_cases hc:opR 3 s2.hd.text=0
 · rw [pW hc] at p4
   rw [← p4]
   have hne:(((opR 3 s2.hd.text:Nat):Int) != 0)=false:=by rw [hc];rfl
   simp only [exA,exN,Ex.A3,AE,AH,if_pos hc]
   (repeat' (first|refine Run.ct rfl ?_|((first|refine Run.reg mixed ?_|refine Run.AM ?_|refine Run.Af KE (AN.le_refl _) ?_|(refine AQ rfl (fun h=>?_) (fun h=>?_)<;>try (cases h;done)))<;>try simp -implicitDefEqProofs only [hne,go_sem])|(refine ⟨fun h=>?_,fun h=>?_⟩<;>first|(cases h;done)|try simp only [h])|fail))
 · rw [pX hc] at p4
   have hne:(((opR 3 s2.hd.text:Nat):Int) != 0)=true:=by simp;exact hc
   simp only [if_neg hc]
   have h3:POk L s2.adv:=by
    rcases (cB hc) with ⟨t,ht,he⟩
    exact p1.adv ht he
   have l3:=BN p1.wf
   have hop:=lY 3 s2.hd.text
   generalize opR 3 s2.hd.text=w at p4 hne hop ⊢
   generalize s2.adv=s3 at p4 h3 l3 ⊢
   have b3:(σ.AL i (psA L s3)).blk i=some (psA L s3):=(by rw [AO,if_pos rfl])
   (have c3:=(jX i hN n hE) (σ.AL i (psA L s3)) s3 g0 h3 (by omega) b3;rw [A0] at c3;have h4:=h3.run (P3 E);have l4:=PM.le (P3 E) h3.wf;generalize (P3 E).run s3=y at c3 h4 l4 p4 ⊢;obtain ⟨x3,s4⟩:=y;simp only at c3 h4 l4 p4 ⊢;have b4:(σ.AL i (psA L s4)).blk i=some (psA L s4):=(by rw [AO,if_pos rfl]);obtain ⟨o3,n3,u3,ns3,ks3,al3⟩:=x3;simp only [exA,Ex.A3,AE,AH] at c3 ⊢)
   have c4:=Tg (w:Int) (.mk o nm u ns ks al) (Ex.mk o3 n3 u3 ns3 ks3 al3) (σ.AL i (psA L s4))
   simp only [exA,Ex.A3,Gu,exN,AE,AH] at c4
   have c5:=KL h4 3 (σ.AL i (psA L s4)) b4
   rw [A0] at c5
   (repeat' (first|refine Run.ct rfl ?_|((first|refine Run.reg mixed ?_|refine Run.AM ?_|(refine AG.upd c3 ?_)|(refine AG.upd c5 ?_)|refine AG.det (c4) ?_|(refine AQ rfl (fun h=>?_) (fun h=>?_)<;>try (cases h;done)))<;>try simp -implicitDefEqProofs only [hne,go_sem])|(refine ⟨fun h=>?_,fun h=>?_⟩<;>first|(cases h;done)|try simp only [h])|fail))
   have hx:=OM 13 [] (w:Int) [] [.mk o nm u ns ks al,(Ex.mk o3 n3 u3 ns3 ks3 al3)] []
   simp only [Ex.A3,AE,AH] at hx
   rw [hx]
   exact ih (s4,Gu (w:Int) (.mk o nm u ns ks al) (Ex.mk o3 n3 u3 ns3 ks3 al3),q) ⟨h4,by simp only;omega,by simp only;omega,p4⟩ (by simp only;omega)
theorem tP {E:PM Ex} {n:Nat} {a:Ex} {s:PSt} (hc:opR 2 s.hd.text≠0):(Rf E (n+1) a).run s=(Rf E n (Gu ((opR 2 s.hd.text:Nat):Int) a ((LF E).run s.adv).1)).run ((LF E).run s.adv).2:=by
 rw [Rf]
 simp only [Gg,run_bind]
 rw [vN] at hc ⊢
 cases h0:s.hd.text==[43] with
 |true=>simp
 |false=>
 cases h1:s.hd.text==[45] with
 |true=>simp
 |false=>
 simp [h0,h1] at hc
theorem tO {E:PM Ex} {n:Nat} {a:Ex} {s:PSt} (hc:opR 2 s.hd.text=0):(Rf E (n+1) a).run s=(a,s):=by
 rw [Rf]
 simp only [Gg,run_pure]
 rw [vN] at hc
 cases h0:s.hd.text==[43] with
 |true=>simp [h0] at hc
 |false=>
 cases h1:s.hd.text==[45] with
 |true=>simp [h0,h1] at hc
 |false=>
 simp
set_option maxHeartbeats 2000000 in
theorem nD (i:Nat) {L:List Tok} (hN:NOk L) (n:Nat) {E:PM Ex} (hE:PC 131 [.gp i 0] i L n E exA):PC 186 [.gp i 0] i L (n+1) (KM E) exA:=by
 intro σ s0 g0 h0 l0 b0
 refine R5 (by simp) ?_
 rw [BM]
 simp only [KM,run_bind]
 (have c0:=(eX i hN n hE) σ s0 g0 h0 (by omega) b0;have h1:=h0.run (LF E);have l1:=PM.le (LF E) h0.wf;generalize (LF E).run s0=y at c0 h1 l1 ⊢;obtain ⟨x0,s1⟩:=y;simp only at c0 h1 l1 ⊢;have b1:(σ.AL i (psA L s1)).blk i=some (psA L s1):=(by rw [AO,if_pos rfl]);obtain ⟨o0,n0,u0,ns0,ks0,al0⟩:=x0;simp only [exA,Ex.A3,AE,AH] at c0 ⊢)
 have c1:=KL h1 2 (σ.AL i (psA L s1)) b1
 rw [A0] at c1
 (repeat' (first|refine Run.ct rfl ?_|((first|refine Run.reg mixed ?_|refine Run.AM ?_|(refine AG.upd c0 ?_)|(refine AG.upd c1 ?_)|(refine AQ rfl (fun h=>?_) (fun h=>?_)<;>try (cases h;done)))<;>try simp -implicitDefEqProofs only [go_sem])|(refine ⟨fun h=>?_,fun h=>?_⟩<;>first|(cases h;done)|try simp only [h])|fail))
 rw [OM]
 refine Run.Cm ?_
 have hf0:=FC
 have hl0:=h0.suf.length_le
 have hl1:=h0.len
 refine Run.Cn (α:=PSt×Ex×Nat) (fun y=>put 0 (.gp i 0) (put 2 (.lp 2 0) (put 3 (.lp 3 0) (put 4 (.d (.int .i64 ((opR 2 y.1.hd.text:Nat):Int))) U)))) (fun y=>Bd 2 [.d (.int .i64 0),.d (.str []),.d (.int .i64 0),.AU,.AU,.AU] (Bd 3 (exC y.2.1) Ab.E)) (fun y=>if opR 2 y.1.hd.text=0 then σ.AL i (psA L y.1) else σ.AL i (psA L y.1.adv)) (fun y=>POk L y.1∧y.1.r.length≤n+1∧y.1.r.length≤y.2.2∧(Rf E y.2.2 y.2.1).run y.1=(Rf E BB (Ex.mk o0 n0 u0 ns0 ks0 al0)).run s1) (fun y=>y.1.r.length) ?_ (s1,(Ex.mk o0 n0 u0 ns0 ks0 al0),BB) ⟨h1,by simp only;omega,by simp only;omega,rfl⟩
 rintro ⟨s2,a,q⟩ ⟨p1,p2,p3,p4⟩ ih
 simp only at p1 p2 p3 p4
 have b2:(σ.AL i (psA L s2)).blk i=some (psA L s2):=(by rw [AO,if_pos rfl])
 obtain ⟨q,rfl⟩:∃m,q=m+1:=⟨q - 1,by have:=Ap.2 p1.wf.ne;omega⟩
 obtain ⟨o,nm,u,ns,ks,al⟩:=a
 simp only [← OM]
 by_cases hc:opR 2 s2.hd.text=0
 · rw [tO hc] at p4
   rw [← p4]
   have hne:(((opR 2 s2.hd.text:Nat):Int) != 0)=false:=by rw [hc];rfl
   simp only [exA,exN,Ex.A3,AE,AH,if_pos hc]
   (repeat' (first|refine Run.ct rfl ?_|((first|refine Run.reg mixed ?_|refine Run.AM ?_|refine Run.Af LD (AN.le_refl _) ?_|(refine AQ rfl (fun h=>?_) (fun h=>?_)<;>try (cases h;done)))<;>try simp -implicitDefEqProofs only [hne,go_sem])|(refine ⟨fun h=>?_,fun h=>?_⟩<;>first|(cases h;done)|try simp only [h])|fail))
 · rw [tP hc] at p4
   have hne:(((opR 2 s2.hd.text:Nat):Int) != 0)=true:=by simp;exact hc
   simp only [if_neg hc]
   have h3:POk L s2.adv:=by
    rcases (cB hc) with ⟨t,ht,he⟩
    exact p1.adv ht he
   have l3:=BN p1.wf
   have hop:=lY 2 s2.hd.text
   generalize opR 2 s2.hd.text=w at p4 hne hop ⊢
   generalize s2.adv=s3 at p4 h3 l3 ⊢
   have b3:(σ.AL i (psA L s3)).blk i=some (psA L s3):=(by rw [AO,if_pos rfl])
   (have c3:=(eX i hN n hE) (σ.AL i (psA L s3)) s3 g0 h3 (by omega) b3;rw [A0] at c3;have h4:=h3.run (LF E);have l4:=PM.le (LF E) h3.wf;generalize (LF E).run s3=y at c3 h4 l4 p4 ⊢;obtain ⟨x3,s4⟩:=y;simp only at c3 h4 l4 p4 ⊢;have b4:(σ.AL i (psA L s4)).blk i=some (psA L s4):=(by rw [AO,if_pos rfl]);obtain ⟨o3,n3,u3,ns3,ks3,al3⟩:=x3;simp only [exA,Ex.A3,AE,AH] at c3 ⊢)
   have c4:=Tg (w:Int) (.mk o nm u ns ks al) (Ex.mk o3 n3 u3 ns3 ks3 al3) (σ.AL i (psA L s4))
   simp only [exA,Ex.A3,Gu,exN,AE,AH] at c4
   have c5:=KL h4 2 (σ.AL i (psA L s4)) b4
   rw [A0] at c5
   (repeat' (first|refine Run.ct rfl ?_|((first|refine Run.reg mixed ?_|refine Run.AM ?_|(refine AG.upd c3 ?_)|(refine AG.upd c5 ?_)|refine AG.det (c4) ?_|(refine AQ rfl (fun h=>?_) (fun h=>?_)<;>try (cases h;done)))<;>try simp -implicitDefEqProofs only [hne,go_sem])|(refine ⟨fun h=>?_,fun h=>?_⟩<;>first|(cases h;done)|try simp only [h])|fail))
   have hx:=OM 13 [] (w:Int) [] [.mk o nm u ns ks al,(Ex.mk o3 n3 u3 ns3 ks3 al3)] []
   simp only [Ex.A3,AE,AH] at hx
   rw [hx]
   exact ih (s4,Gu (w:Int) (.mk o nm u ns ks al) (Ex.mk o3 n3 u3 ns3 ks3 al3),q) ⟨h4,by simp only;omega,by simp only;omega,p4⟩ (by simp only;omega)
end Go.Ab
namespace Go.Ab
open Go.Proofs
theorem Run.tG {cx:Cx} {KK:AV→AN→Prop} {k:List CI} {F:Fm} {q0 q:Nat} {A cs:List AV} {σ σ':AN} (hσ:σ'.le σ) (h:Run cx KK k F (Bd q0 A (Bd q (AV.Eb cs) E)) σ'):Run cx KK k F (Bd q0 A (Bd q cs E)) σ:=by
 refine Run.dG (σ':=σ') (fun _=>.inl rfl) (fun _ _ h=>h) hσ (Run.l9 (fun q' cs' hq=>?_) h)
 by_cases e2:q'=q0
 · subst e2
   have:cs'=A:=by simpa [Bd] using hq.symm
   exact ⟨A,by simp [Bd],.inl this⟩
 · by_cases e3:q'=q
   · subst e3
     have:cs'=AV.Eb cs:=by simpa [Bd,e2] using hq.symm
     exact ⟨cs,by simp [Bd,e2],.inr this⟩
   · simp [Bd,e2,e3,E] at hq
theorem YU:Am Tryz.prog 172=true:=by kernel_rfl
theorem YV:Am Tryz.prog 126=true:=by kernel_rfl
theorem sN:Am Tryz.prog 171=true:=by kernel_rfl
theorem sO:Am Tryz.prog 129=true:=by kernel_rfl
theorem kG (E:PM Ex) (s:PSt):(Ud E).run s=if opR 1 ((KM E).run s).2.hd.text=0 then (KM E).run s else (Gu ((opR 1 ((KM E).run s).2.hd.text:Nat):Int) ((KM E).run s).1 ((KM E).run ((KM E).run s).2.adv).1,((KM E).run ((KM E).run s).2.adv).2):=by
 simp only [Ud,run_bind,Gg,run_pure]
 generalize (KM E).run s=y
 obtain ⟨a,s1⟩:=y
 simp only
 rw [wP]
 cases h0:s1.hd.text==[60] with
 |true=>simp
 |false=>
 cases h1:s1.hd.text==[60,61] with
 |true=>simp
 |false=>
 cases h2:s1.hd.text==[61,61] with
 |true=>simp
 |false=>simp
theorem nZ (i:Nat) {L:List Tok} (hN:NOk L) (n:Nat) {E:PM Ex} (hE:PC 131 [.gp i 0] i L n E exA):PC 173 [.gp i 0] i L (n+1) (Ud E) exA:=by
 intro σ s0 g0 h0 l0 b0
 refine QK (by simp) ?_
 rw [BM,kG]
 (have c0:=(nD i hN n hE) σ s0 g0 h0 (by omega) b0;have h1:=h0.run (KM E);have l1:=PM.le (KM E) h0.wf;generalize (KM E).run s0=y at c0 h1 l1 ⊢;obtain ⟨x0,s1⟩:=y;simp only at c0 h1 l1 ⊢;have b1:(σ.AL i (psA L s1)).blk i=some (psA L s1):=(by rw [AO,if_pos rfl]);obtain ⟨o0,n0,u0,ns0,ks0,al0⟩:=x0;simp only [exA,Ex.A3,AE,AH] at c0 ⊢)
 have c1:=KL h1 1 (σ.AL i (psA L s1)) b1
 rw [A0] at c1
 by_cases hc:opR 1 s1.hd.text=0
 · have hne:(((opR 1 s1.hd.text:Nat):Int) != 0)=false:=by rw [hc];rfl
   rw [if_pos hc] at c1 ⊢
   simp only [exA,exN,Ex.A3,AE,AH]
   (repeat' (first|refine Run.ct rfl ?_|((first|refine Run.reg mixed ?_|refine Run.AM ?_|refine Run.Af GY (AN.le_refl _) ?_|(refine AG.upd c0 ?_)|(refine AG.upd c1 ?_)|(refine AQ rfl (fun h=>?_) (fun h=>?_)<;>try (cases h;done)))<;>try simp -implicitDefEqProofs only [hne,go_sem])|(refine ⟨fun h=>?_,fun h=>?_⟩<;>first|(cases h;done)|try simp only [h])|fail))
 · have hne:(((opR 1 s1.hd.text:Nat):Int) != 0)=true:=by simp;exact hc
   rw [if_neg hc] at c1 ⊢
   have h2:POk L s1.adv:=by
    rcases (cB hc) with ⟨t,ht,he⟩
    exact h1.adv ht he
   have l2:=BN h1.wf
   generalize opR 1 s1.hd.text=w at c1 hne ⊢
   generalize s1.adv=s2 at c1 h2 l2 ⊢
   have b2:(σ.AL i (psA L s2)).blk i=some (psA L s2):=(by rw [AO,if_pos rfl])
   (have c2:=(nD i hN n hE) (σ.AL i (psA L s2)) s2 g0 h2 (by omega) b2;rw [A0] at c2;have h3:=h2.run (KM E);have l3:=PM.le (KM E) h2.wf;generalize (KM E).run s2=y at c2 h3 l3 ⊢;obtain ⟨x2,s3⟩:=y;simp only at c2 h3 l3 ⊢;have b3:(σ.AL i (psA L s3)).blk i=some (psA L s3):=(by rw [AO,if_pos rfl]);obtain ⟨o2,n2,u2,ns2,ks2,al2⟩:=x2;simp only [exA,Ex.A3,AE,AH] at c2 ⊢)
   have c4:=Tg (w:Int) (Ex.mk o0 n0 u0 ns0 ks0 al0) (Ex.mk o2 n2 u2 ns2 ks2 al2) (σ.AL i (psA L s3))
   simp only [exA,Ex.A3,Gu,exN,AE,AH] at c4 ⊢
   (repeat' (first|refine Run.ct rfl ?_|((first|refine Run.reg mixed ?_|refine Run.AM ?_|refine Run.Af GY (AN.le_refl _) ?_|(refine AG.upd c0 ?_)|(refine AG.upd c1 ?_)|(refine AG.upd c2 ?_)|refine AG.det (c4) ?_|(refine AQ rfl (fun h=>?_) (fun h=>?_)<;>try (cases h;done)))<;>try simp -implicitDefEqProofs only [hne,go_sem])|(refine ⟨fun h=>?_,fun h=>?_⟩<;>first|(cases h;done)|try simp only [h])|fail))
set_option maxHeartbeats 2000000 in
theorem sW (i:Nat) (L:List Tok) (n:Nat) {E:PM Ex} (hE:PC 131 [.gp i 0] i L n E exA):PC 169 [.gp i 0] i L n (Zh E) exA:=by
 intro σ s0 g0 h0 l0 b0
 refine R4 (by simp) ?_
 rw [BM]
 simp only [Zh,Gg]
 cases t0:s0.hd.text==[40] with
 |true=>
  simp only [if_true,run_bind,run_pure,exA,exN,Ex.A3,AE,AH]
  (have c0:=Cj h0 [40] σ b0 t0;have h1:=h0.adv (t:=[40]) (by decide) t0;have l1:=BN h0.wf;generalize s0.adv=s1 at c0 h1 l1 ⊢;have b1:(σ.AL i (psA L s1)).blk i=some (psA L s1):=by rw [AO,if_pos rfl])
  (have c1:=(Qz i L n) (σ.AL i (psA L s1)) s1 g0 h1 (by omega) b1;rw [A0] at c1;have h2:=h1.run (Fj);have l2:=PM.le (Fj) h1.wf;generalize (Fj).run s1=y at c1 h2 l2 ⊢;obtain ⟨x1,s2⟩:=y;simp only at c1 h2 l2 ⊢;have b2:(σ.AL i (psA L s2)).blk i=some (psA L s2):=(by rw [AO,if_pos rfl]))
  (have c2:=(Ck i L n [44] (by decide)) (σ.AL i (psA L s2)) s2 g0 h2 (by omega) b2;rw [A0] at c2;have h3:=h2.run (PM.exp [44] (by decide));have l3:=PM.le (PM.exp [44] (by decide)) h2.wf;generalize (PM.exp [44] (by decide)).run s2=y at c2 h3 l3 ⊢;obtain ⟨x2,s3⟩:=y;simp only at c2 h3 l3 ⊢;have b3:(σ.AL i (psA L s3)).blk i=some (psA L s3):=(by rw [AO,if_pos rfl]))
  (have d3:=fun tk:Nat=>(Gf i L n YU (Qz i L n)).pc ((σ.AL i (psA L s3)).DF tk) s3 g0 h3 (by omega) (by rw [F2];exact b3);have c3:=(Gf i L n YU (Qz i L n)).pc (σ.AL i (psA L s3)) s3 g0 h3 (by omega) b3;rw [A0] at c3;have h4:=h3.run (listed Fj);have l4:=PM.le (listed Fj) h3.wf;have n3:=O7 (read:=Fj) h3.wf;generalize (listed Fj).run s3=y at c3 d3 h4 l4 n3 ⊢;obtain ⟨x3,s4⟩:=y;simp only at c3 d3 h4 l4 n3 ⊢;have q3:=h0.suf.length_le;have q3':=h0.len)
  have b4:(σ.AL i (psA L s4)).blk i=some (psA L s4):=(by rw [AO,if_pos rfl])
  (have c4:=(Ck i L n [61] (by decide)) (σ.AL i (psA L s4)) s4 g0 h4 (by omega) b4;rw [A0] at c4;have h5:=h4.run (PM.exp [61] (by decide));have l5:=PM.le (PM.exp [61] (by decide)) h4.wf;generalize (PM.exp [61] (by decide)).run s4=y at c4 h5 l5 ⊢;obtain ⟨x4,s5⟩:=y;simp only at c4 h5 l5 ⊢;have b5:(σ.AL i (psA L s5)).blk i=some (psA L s5):=(by rw [AO,if_pos rfl]))
  (have c5:=hE (σ.AL i (psA L s5)) s5 g0 h5 (by omega) b5;rw [A0] at c5;have h6:=h5.run (E);have l6:=PM.le (E) h5.wf;generalize (E).run s5=y at c5 h6 l6 ⊢;obtain ⟨x5,s6⟩:=y;simp only at c5 h6 l6 ⊢;have b6:(σ.AL i (psA L s6)).blk i=some (psA L s6):=(by rw [AO,if_pos rfl]);obtain ⟨o5,n5,u5,ns5,ks5,al5⟩:=x5;simp only [exA,Ex.A3,AE,AH] at c5 ⊢)
  (have c6:=(Ck i L n [105,110] (by decide)) (σ.AL i (psA L s6)) s6 g0 h6 (by omega) b6;rw [A0] at c6;have h7:=h6.run (PM.exp [105,110] (by decide));have l7:=PM.le (PM.exp [105,110] (by decide)) h6.wf;generalize (PM.exp [105,110] (by decide)).run s6=y at c6 h7 l7 ⊢;obtain ⟨x6,s7⟩:=y;simp only at c6 h7 l7 ⊢;have b7:(σ.AL i (psA L s7)).blk i=some (psA L s7):=(by rw [AO,if_pos rfl]))
  (have c7:=hE (σ.AL i (psA L s7)) s7 g0 h7 (by omega) b7;rw [A0] at c7;have h8:=h7.run (E);have l8:=PM.le (E) h7.wf;generalize (E).run s7=y at c7 h8 l8 ⊢;obtain ⟨x7,s8⟩:=y;simp only at c7 h8 l8 ⊢;have b8:(σ.AL i (psA L s8)).blk i=some (psA L s8):=(by rw [AO,if_pos rfl]);obtain ⟨o7,n7,u7,ns7,ks7,al7⟩:=x7;simp only [exA,Ex.A3,AE,AH] at c7 ⊢)
  (repeat' (first|refine Run.ct rfl ?_|((first|refine Run.reg mixed ?_|refine Run.AM ?_|(refine AG.upd c0 ?_)|(refine AG.upd c1 ?_)|(refine AG.upd c2 ?_)|(refine AQ rfl (fun h=>?_) (fun h=>?_)<;>try (cases h;done)))<;>try simp -implicitDefEqProofs only [go_sem])|(refine ⟨fun h=>?_,fun h=>?_⟩<;>first|(cases h;done)|try simp only [h])|fail))
  refine Hb.own rfl (by decide) (fun tk htk=>?_);simp -implicitDefEqProofs only [go_sem]
  refine AG.upd (d3 tk) ?_;simp -implicitDefEqProofs only [go_sem]
  (apply LS.tok (LS.pA htk s4);rfl;exact (MH _ _ (fun _=>rfl));(simp only [AI,AD,AF];omega);decide;intro v2 τ2 ho);simp -implicitDefEqProofs only [ho.own.BO,ho.own.As,ho.own.cells,ho.own.cell,ho.own.plain,ho.own.dv,if_true,go_sem]
  refine Run.tG ho.le ?_
  simp only [AV.Eb,AV.plain,ho.own.plain]
  (repeat' (first|refine Run.ct rfl ?_|((first|refine Run.reg mixed ?_|refine Run.AM ?_|refine Run.Af Gv (AN.le_refl _) ?_|(refine AG.upd c4 ?_)|(refine AG.upd c5 ?_)|(refine AG.upd c6 ?_)|(refine AG.upd c7 ?_)|(refine AQ rfl (fun h=>?_) (fun h=>?_)<;>try (cases h;done)))<;>try simp -implicitDefEqProofs only [go_sem])|(refine ⟨fun h=>?_,fun h=>?_⟩<;>first|(cases h;done)|try simp only [h])|fail))
  rfl
 |false=>
  have f0:=Ci h0 _ σ b0 t0
  simp only [if_false,AY,run_bind,run_pure,exA,exN,Ex.A3,AE,AH]
  (have c0:=(Qz i L n) σ s0 g0 h0 (by omega) b0;have h1:=h0.run (Fj);have l1:=PM.le (Fj) h0.wf;generalize (Fj).run s0=y at c0 h1 l1 ⊢;obtain ⟨x0,s1⟩:=y;simp only at c0 h1 l1 ⊢;have b1:(σ.AL i (psA L s1)).blk i=some (psA L s1):=(by rw [AO,if_pos rfl]))
  (have c1:=(Ck i L n [61] (by decide)) (σ.AL i (psA L s1)) s1 g0 h1 (by omega) b1;rw [A0] at c1;have h2:=h1.run (PM.exp [61] (by decide));have l2:=PM.le (PM.exp [61] (by decide)) h1.wf;generalize (PM.exp [61] (by decide)).run s1=y at c1 h2 l2 ⊢;obtain ⟨x1,s2⟩:=y;simp only at c1 h2 l2 ⊢;have b2:(σ.AL i (psA L s2)).blk i=some (psA L s2):=(by rw [AO,if_pos rfl]))
  (have c2:=hE (σ.AL i (psA L s2)) s2 g0 h2 (by omega) b2;rw [A0] at c2;have h3:=h2.run (E);have l3:=PM.le (E) h2.wf;generalize (E).run s2=y at c2 h3 l3 ⊢;obtain ⟨x2,s3⟩:=y;simp only at c2 h3 l3 ⊢;have b3:(σ.AL i (psA L s3)).blk i=some (psA L s3):=(by rw [AO,if_pos rfl]);obtain ⟨o2,n2,u2,ns2,ks2,al2⟩:=x2;simp only [exA,Ex.A3,AE,AH] at c2 ⊢)
  (have c3:=(Ck i L n [105,110] (by decide)) (σ.AL i (psA L s3)) s3 g0 h3 (by omega) b3;rw [A0] at c3;have h4:=h3.run (PM.exp [105,110] (by decide));have l4:=PM.le (PM.exp [105,110] (by decide)) h3.wf;generalize (PM.exp [105,110] (by decide)).run s3=y at c3 h4 l4 ⊢;obtain ⟨x3,s4⟩:=y;simp only at c3 h4 l4 ⊢;have b4:(σ.AL i (psA L s4)).blk i=some (psA L s4):=(by rw [AO,if_pos rfl]))
  (have c4:=hE (σ.AL i (psA L s4)) s4 g0 h4 (by omega) b4;rw [A0] at c4;have h5:=h4.run (E);have l5:=PM.le (E) h4.wf;generalize (E).run s4=y at c4 h5 l5 ⊢;obtain ⟨x4,s5⟩:=y;simp only at c4 h5 l5 ⊢;have b5:(σ.AL i (psA L s5)).blk i=some (psA L s5):=(by rw [AO,if_pos rfl]);obtain ⟨o4,n4,u4,ns4,ks4,al4⟩:=x4;simp only [exA,Ex.A3,AE,AH] at c4 ⊢)
  (repeat' (first|refine Run.ct rfl ?_|((first|refine Run.reg mixed ?_|refine Run.AM ?_|refine Run.Af Gv (AN.le_refl _) ?_|(refine AG.upd c0 ?_)|(refine AG.upd c1 ?_)|(refine AG.upd c2 ?_)|(refine AG.upd c3 ?_)|(refine AG.upd c4 ?_)|refine AG.det (f0) ?_|(refine AQ rfl (fun h=>?_) (fun h=>?_)<;>try (cases h;done)))<;>try simp -implicitDefEqProofs only [go_sem])|(refine ⟨fun h=>?_,fun h=>?_⟩<;>first|(cases h;done)|try simp only [h])|fail))
theorem r3 (i:Nat) (L:List Tok) (n:Nat) {E:PM Ex} (hE:PC 131 [.gp i 0] i L n E exA):PC 171 [.gp i 0] i L n (cC E) alA:=by
 intro σ s0 g0 h0 l0 b0
 refine R0 (by simp) ?_
 rw [BM]
 simp only [cC,run_bind,run_pure]
 (have c0:=(Qu i L n) σ s0 g0 h0 (by omega) b0;have h1:=h0.run (Eo);have l1:=PM.le (Eo) h0.wf;generalize (Eo).run s0=y at c0 h1 l1 ⊢;obtain ⟨x0,s1⟩:=y;simp only at c0 h1 l1 ⊢;have b1:(σ.AL i (psA L s1)).blk i=some (psA L s1):=(by rw [AO,if_pos rfl]))
 (have c1:=((Nb i L n YU (Qz i L n)).pc.mono (Nat.le_succ n)) (σ.AL i (psA L s1)) s1 g0 h1 (by omega) b1;rw [A0] at c1;have h2:=h1.run (H9 Fj);have l2:=PM.le (H9 Fj) h1.wf;generalize (H9 Fj).run s1=y at c1 h2 l2 ⊢;obtain ⟨x1,s2⟩:=y;simp only at c1 h2 l2 ⊢;have b2:(σ.AL i (psA L s2)).blk i=some (psA L s2):=(by rw [AO,if_pos rfl]))
 (have c2:=(Ck i L n [45,62] (by decide)) (σ.AL i (psA L s2)) s2 g0 h2 (by omega) b2;rw [A0] at c2;have h3:=h2.run (PM.exp [45,62] (by decide));have l3:=PM.le (PM.exp [45,62] (by decide)) h2.wf;generalize (PM.exp [45,62] (by decide)).run s2=y at c2 h3 l3 ⊢;obtain ⟨x2,s3⟩:=y;simp only at c2 h3 l3 ⊢;have b3:(σ.AL i (psA L s3)).blk i=some (psA L s3):=(by rw [AO,if_pos rfl]))
 (have c3:=hE (σ.AL i (psA L s3)) s3 g0 h3 (by omega) b3;rw [A0] at c3;have h4:=h3.run (E);have l4:=PM.le (E) h3.wf;generalize (E).run s3=y at c3 h4 l4 ⊢;obtain ⟨x3,s4⟩:=y;simp only at c3 h4 l4 ⊢;have b4:(σ.AL i (psA L s4)).blk i=some (psA L s4):=(by rw [AO,if_pos rfl]);obtain ⟨o3,n3,u3,ns3,ks3,al3⟩:=x3;simp only [exA,Ex.A3,AE,AH] at c3 ⊢)
 simp only [alA,Al.A3,AE,AH]
 (repeat' (first|refine Run.ct rfl ?_|((first|refine Run.reg mixed ?_|refine Run.AM ?_|refine Run.Af Kz (AN.le_refl _) ?_|(refine AG.upd c0 ?_)|(refine AG.upd c1 ?_)|(refine AG.upd c2 ?_)|(refine AG.upd c3 ?_)|(refine AQ rfl (fun h=>?_) (fun h=>?_)<;>try (cases h;done)))<;>try simp -implicitDefEqProofs only [go_sem])|(refine ⟨fun h=>?_,fun h=>?_⟩<;>first|(cases h;done)|try simp only [h])|fail))
set_option maxHeartbeats 4000000 in
theorem dZ (i:Nat) {L:List Tok} (hN:NOk L):∀n,PC 131 [.gp i 0] i L n (Bq n) exA
 |0=>fun σ s _ h1 h2 h3=>by have:=Ap.2 h1.wf.ne;omega
 |n+1=>by
  have ih:=dZ i hN n
  intro σ s0 g0 h0 l0 b0
  refine QM (by simp) ?_
  rw [BM,Bq]
  simp only [Gg]
  cases t1:s0.hd.text==[108,101,116] with
  |true=>
   simp only [if_true]
   (have c0:=Cj h0 [108,101,116] σ b0 t1;have h1:=h0.adv (t:=[108,101,116]) (by decide) t1;have l1:=BN h0.wf;generalize s0.adv=s1 at c0 h1 l1 ⊢;have b1:(σ.AL i (psA L s1)).blk i=some (psA L s1):=by rw [AO,if_pos rfl])
   (have c1:=(sW i L n ih) (σ.AL i (psA L s1)) s1 g0 h1 (by omega) b1;rw [A0] at c1;have h2:=h1.run (Zh (Bq n));have l2:=PM.le (Zh (Bq n)) h1.wf;generalize (Zh (Bq n)).run s1=y at c1 h2 l2 ⊢;obtain ⟨x1,s2⟩:=y;simp only at c1 h2 l2 ⊢;have b2:(σ.AL i (psA L s2)).blk i=some (psA L s2):=(by rw [AO,if_pos rfl]);obtain ⟨o1,n1,u1,ns1,ks1,al1⟩:=x1;simp only [exA,Ex.A3,AE,AH] at c1 ⊢)
   (repeat' (first|refine Run.ct rfl ?_|((first|refine Run.reg mixed ?_|refine Run.AM ?_|refine Run.Af CC (AN.le_refl _) ?_|(refine AG.upd c0 ?_)|(refine AG.upd c1 ?_)|(refine AQ rfl (fun h=>?_) (fun h=>?_)<;>try (cases h;done)))<;>try simp -implicitDefEqProofs only [go_sem])|(refine ⟨fun h=>?_,fun h=>?_⟩<;>first|(cases h;done)|try simp only [h])|fail))
  |false=>
  have f1:=Ci h0 _ σ b0 t1
  cases t2:s0.hd.text==[105,102] with
  |true=>
   simp only [if_true,if_false,AY,run_bind,run_pure,exA,exN,Ex.A3,AE,AH]
   (have c0:=Cj h0 [105,102] σ b0 t2;have h1:=h0.adv (t:=[105,102]) (by decide) t2;have l1:=BN h0.wf;generalize s0.adv=s1 at c0 h1 l1 ⊢;have b1:(σ.AL i (psA L s1)).blk i=some (psA L s1):=by rw [AO,if_pos rfl])
   (have c1:=ih (σ.AL i (psA L s1)) s1 g0 h1 (by omega) b1;rw [A0] at c1;have h2:=h1.run (Bq n);have l2:=PM.le (Bq n) h1.wf;generalize (Bq n).run s1=y at c1 h2 l2 ⊢;obtain ⟨x1,s2⟩:=y;simp only at c1 h2 l2 ⊢;have b2:(σ.AL i (psA L s2)).blk i=some (psA L s2):=(by rw [AO,if_pos rfl]);obtain ⟨o1,n1,u1,ns1,ks1,al1⟩:=x1;simp only [exA,Ex.A3,AE,AH] at c1 ⊢)
   (have c2:=(Ck i L n [116,104,101,110] (by decide)) (σ.AL i (psA L s2)) s2 g0 h2 (by omega) b2;rw [A0] at c2;have h3:=h2.run (PM.exp [116,104,101,110] (by decide));have l3:=PM.le (PM.exp [116,104,101,110] (by decide)) h2.wf;generalize (PM.exp [116,104,101,110] (by decide)).run s2=y at c2 h3 l3 ⊢;obtain ⟨x2,s3⟩:=y;simp only at c2 h3 l3 ⊢;have b3:(σ.AL i (psA L s3)).blk i=some (psA L s3):=(by rw [AO,if_pos rfl]))
   (have c3:=ih (σ.AL i (psA L s3)) s3 g0 h3 (by omega) b3;rw [A0] at c3;have h4:=h3.run (Bq n);have l4:=PM.le (Bq n) h3.wf;generalize (Bq n).run s3=y at c3 h4 l4 ⊢;obtain ⟨x3,s4⟩:=y;simp only at c3 h4 l4 ⊢;have b4:(σ.AL i (psA L s4)).blk i=some (psA L s4):=(by rw [AO,if_pos rfl]);obtain ⟨o3,n3,u3,ns3,ks3,al3⟩:=x3;simp only [exA,Ex.A3,AE,AH] at c3 ⊢)
   (have c4:=(Ck i L n [101,108,115,101] (by decide)) (σ.AL i (psA L s4)) s4 g0 h4 (by omega) b4;rw [A0] at c4;have h5:=h4.run (PM.exp [101,108,115,101] (by decide));have l5:=PM.le (PM.exp [101,108,115,101] (by decide)) h4.wf;generalize (PM.exp [101,108,115,101] (by decide)).run s4=y at c4 h5 l5 ⊢;obtain ⟨x4,s5⟩:=y;simp only at c4 h5 l5 ⊢;have b5:(σ.AL i (psA L s5)).blk i=some (psA L s5):=(by rw [AO,if_pos rfl]))
   (have c5:=ih (σ.AL i (psA L s5)) s5 g0 h5 (by omega) b5;rw [A0] at c5;have h6:=h5.run (Bq n);have l6:=PM.le (Bq n) h5.wf;generalize (Bq n).run s5=y at c5 h6 l6 ⊢;obtain ⟨x5,s6⟩:=y;simp only at c5 h6 l6 ⊢;have b6:(σ.AL i (psA L s6)).blk i=some (psA L s6):=(by rw [AO,if_pos rfl]);obtain ⟨o5,n5,u5,ns5,ks5,al5⟩:=x5;simp only [exA,Ex.A3,AE,AH] at c5 ⊢)
   (repeat' (first|refine Run.ct rfl ?_|((first|refine Run.reg mixed ?_|refine Run.AM ?_|refine Run.Af CC (AN.le_refl _) ?_|(refine AG.upd c0 ?_)|(refine AG.upd c1 ?_)|(refine AG.upd c2 ?_)|(refine AG.upd c3 ?_)|(refine AG.upd c4 ?_)|(refine AG.upd c5 ?_)|refine AG.det (f1) ?_|(refine AQ rfl (fun h=>?_) (fun h=>?_)<;>try (cases h;done)))<;>try simp -implicitDefEqProofs only [go_sem])|(refine ⟨fun h=>?_,fun h=>?_⟩<;>first|(cases h;done)|try simp only [h])|fail))
  |false=>
  have f2:=Ci h0 _ σ b0 t2
  cases t3:s0.hd.text==[109,97,116,99,104] with
  |true=>
   simp only [if_true,if_false,AY,run_bind,run_pure,exA,exN,Ex.A3,AE,AH]
   (have c0:=Cj h0 [109,97,116,99,104] σ b0 t3;have h1:=h0.adv (t:=[109,97,116,99,104]) (by decide) t3;have l1:=BN h0.wf;generalize s0.adv=s1 at c0 h1 l1 ⊢;have b1:(σ.AL i (psA L s1)).blk i=some (psA L s1):=by rw [AO,if_pos rfl])
   (have c1:=ih (σ.AL i (psA L s1)) s1 g0 h1 (by omega) b1;rw [A0] at c1;have h2:=h1.run (Bq n);have l2:=PM.le (Bq n) h1.wf;generalize (Bq n).run s1=y at c1 h2 l2 ⊢;obtain ⟨x1,s2⟩:=y;simp only at c1 h2 l2 ⊢;have b2:(σ.AL i (psA L s2)).blk i=some (psA L s2):=(by rw [AO,if_pos rfl]);obtain ⟨o1,n1,u1,ns1,ks1,al1⟩:=x1;simp only [exA,Ex.A3,AE,AH] at c1 ⊢)
   (have c2:=(Ck i L n [119,105,116,104] (by decide)) (σ.AL i (psA L s2)) s2 g0 h2 (by omega) b2;rw [A0] at c2;have h3:=h2.run (PM.exp [119,105,116,104] (by decide));have l3:=PM.le (PM.exp [119,105,116,104] (by decide)) h2.wf;generalize (PM.exp [119,105,116,104] (by decide)).run s2=y at c2 h3 l3 ⊢;obtain ⟨x2,s3⟩:=y;simp only at c2 h3 l3 ⊢;have b3:(σ.AL i (psA L s3)).blk i=some (psA L s3):=(by rw [AO,if_pos rfl]))
   (have c3:=(Tx i L n sN (r3 i L n ih) [124] (by decide)).pc (σ.AL i (psA L s3)) s3 g0 h3 (by omega) b3;rw [A0] at c3;have h4:=h3.run (items (cC (Bq n)) [124] (by decide));have l4:=PM.le (items (cC (Bq n)) [124] (by decide)) h3.wf;generalize (items (cC (Bq n)) [124] (by decide)).run s3=y at c3 h4 l4 ⊢;obtain ⟨x3,s4⟩:=y;simp only at c3 h4 l4 ⊢;have b4:(σ.AL i (psA L s4)).blk i=some (psA L s4):=(by rw [AO,if_pos rfl]))
   (have c4:=(Ck i L n [101,110,100] (by decide)) (σ.AL i (psA L s4)) s4 g0 h4 (by omega) b4;rw [A0] at c4;have h5:=h4.run (PM.exp [101,110,100] (by decide));have l5:=PM.le (PM.exp [101,110,100] (by decide)) h4.wf;generalize (PM.exp [101,110,100] (by decide)).run s4=y at c4 h5 l5 ⊢;obtain ⟨x4,s5⟩:=y;simp only at c4 h5 l5 ⊢;have b5:(σ.AL i (psA L s5)).blk i=some (psA L s5):=(by rw [AO,if_pos rfl]))
   (repeat' (first|refine Run.ct rfl ?_|((first|refine Run.reg mixed ?_|refine Run.AM ?_|refine Run.Af CC (AN.le_refl _) ?_|(refine AG.upd c0 ?_)|(refine AG.upd c1 ?_)|(refine AG.upd c2 ?_)|(refine AG.upd c3 ?_)|(refine AG.upd c4 ?_)|refine AG.det (f1) ?_|refine AG.det (f2) ?_|(refine AQ rfl (fun h=>?_) (fun h=>?_)<;>try (cases h;done)))<;>try simp -implicitDefEqProofs only [go_sem])|(refine ⟨fun h=>?_,fun h=>?_⟩<;>first|(cases h;done)|try simp only [h])|fail))
  |false=>
  have f3:=Ci h0 _ σ b0 t3
  cases t4:s0.hd.text==[102,110] with
  |true=>
   simp only [if_true,if_false,AY,run_bind,run_pure,exA,exN,Ex.A3,AE,AH]
   (have c0:=Cj h0 [102,110] σ b0 t4;have h1:=h0.adv (t:=[102,110]) (by decide) t4;have l1:=BN h0.wf;generalize s0.adv=s1 at c0 h1 l1 ⊢;have b1:(σ.AL i (psA L s1)).blk i=some (psA L s1):=by rw [AO,if_pos rfl])
   (have c1:=(Ck i L n [40] (by decide)) (σ.AL i (psA L s1)) s1 g0 h1 (by omega) b1;rw [A0] at c1;have h2:=h1.run (PM.exp [40] (by decide));have l2:=PM.le (PM.exp [40] (by decide)) h1.wf;generalize (PM.exp [40] (by decide)).run s1=y at c1 h2 l2 ⊢;obtain ⟨x1,s2⟩:=y;simp only at c1 h2 l2 ⊢;have b2:(σ.AL i (psA L s2)).blk i=some (psA L s2):=(by rw [AO,if_pos rfl]))
   (have c2:=(NT i L n YV (O9 i L n)).pc (σ.AL i (psA L s2)) s2 g0 h2 (by omega) b2;rw [A0] at c2;have h3:=h2.run (closed FK);have l3:=PM.le (closed FK) h2.wf;generalize (closed FK).run s2=y at c2 h3 l3 ⊢;obtain ⟨x2,s3⟩:=y;simp only at c2 h3 l3 ⊢;have b3:(σ.AL i (psA L s3)).blk i=some (psA L s3):=(by rw [AO,if_pos rfl]))
   (have c3:=(Ck i L n [45,62] (by decide)) (σ.AL i (psA L s3)) s3 g0 h3 (by omega) b3;rw [A0] at c3;have h4:=h3.run (PM.exp [45,62] (by decide));have l4:=PM.le (PM.exp [45,62] (by decide)) h3.wf;generalize (PM.exp [45,62] (by decide)).run s3=y at c3 h4 l4 ⊢;obtain ⟨x3,s4⟩:=y;simp only at c3 h4 l4 ⊢;have b4:(σ.AL i (psA L s4)).blk i=some (psA L s4):=(by rw [AO,if_pos rfl]))
   (have c4:=ih (σ.AL i (psA L s4)) s4 g0 h4 (by omega) b4;rw [A0] at c4;have h5:=h4.run (Bq n);have l5:=PM.le (Bq n) h4.wf;generalize (Bq n).run s4=y at c4 h5 l5 ⊢;obtain ⟨x4,s5⟩:=y;simp only at c4 h5 l5 ⊢;have b5:(σ.AL i (psA L s5)).blk i=some (psA L s5):=(by rw [AO,if_pos rfl]);obtain ⟨o4,n4,u4,ns4,ks4,al4⟩:=x4;simp only [exA,Ex.A3,AE,AH] at c4 ⊢)
   (repeat' (first|refine Run.ct rfl ?_|((first|refine Run.reg mixed ?_|refine Run.AM ?_|refine Run.Af CC (AN.le_refl _) ?_|(refine AG.upd c0 ?_)|(refine AG.upd c1 ?_)|(refine AG.upd c2 ?_)|(refine AG.upd c3 ?_)|(refine AG.upd c4 ?_)|refine AG.det (f1) ?_|refine AG.det (f2) ?_|refine AG.det (f3) ?_|(refine AQ rfl (fun h=>?_) (fun h=>?_)<;>try (cases h;done)))<;>try simp -implicitDefEqProofs only [go_sem])|(refine ⟨fun h=>?_,fun h=>?_⟩<;>first|(cases h;done)|try simp only [h])|fail))
  |false=>
  have f4:=Ci h0 _ σ b0 t4
  cases t5:s0.hd.text==[116,114,121] with
  |true=>
   simp only [if_true,if_false,AY,run_bind,run_pure,exA,exN,Ex.A3,AE,AH]
   (have c0:=Cj h0 [116,114,121] σ b0 t5;have h1:=h0.adv (t:=[116,114,121]) (by decide) t5;have l1:=BN h0.wf;generalize s0.adv=s1 at c0 h1 l1 ⊢;have b1:(σ.AL i (psA L s1)).blk i=some (psA L s1):=by rw [AO,if_pos rfl])
   (have c1:=ih (σ.AL i (psA L s1)) s1 g0 h1 (by omega) b1;rw [A0] at c1;have h2:=h1.run (Bq n);have l2:=PM.le (Bq n) h1.wf;generalize (Bq n).run s1=y at c1 h2 l2 ⊢;obtain ⟨x1,s2⟩:=y;simp only at c1 h2 l2 ⊢;have b2:(σ.AL i (psA L s2)).blk i=some (psA L s2):=(by rw [AO,if_pos rfl]);obtain ⟨o1,n1,u1,ns1,ks1,al1⟩:=x1;simp only [exA,Ex.A3,AE,AH] at c1 ⊢)
   (have c2:=(Ck i L n [99,97,116,99,104] (by decide)) (σ.AL i (psA L s2)) s2 g0 h2 (by omega) b2;rw [A0] at c2;have h3:=h2.run (PM.exp [99,97,116,99,104] (by decide));have l3:=PM.le (PM.exp [99,97,116,99,104] (by decide)) h2.wf;generalize (PM.exp [99,97,116,99,104] (by decide)).run s2=y at c2 h3 l3 ⊢;obtain ⟨x2,s3⟩:=y;simp only at c2 h3 l3 ⊢;have b3:(σ.AL i (psA L s3)).blk i=some (psA L s3):=(by rw [AO,if_pos rfl]))
   (have c3:=(Qz i L n) (σ.AL i (psA L s3)) s3 g0 h3 (by omega) b3;rw [A0] at c3;have h4:=h3.run (Fj);have l4:=PM.le (Fj) h3.wf;generalize (Fj).run s3=y at c3 h4 l4 ⊢;obtain ⟨x3,s4⟩:=y;simp only at c3 h4 l4 ⊢;have b4:(σ.AL i (psA L s4)).blk i=some (psA L s4):=(by rw [AO,if_pos rfl]))
   (have c4:=(Ck i L n [45,62] (by decide)) (σ.AL i (psA L s4)) s4 g0 h4 (by omega) b4;rw [A0] at c4;have h5:=h4.run (PM.exp [45,62] (by decide));have l5:=PM.le (PM.exp [45,62] (by decide)) h4.wf;generalize (PM.exp [45,62] (by decide)).run s4=y at c4 h5 l5 ⊢;obtain ⟨x4,s5⟩:=y;simp only at c4 h5 l5 ⊢;have b5:(σ.AL i (psA L s5)).blk i=some (psA L s5):=(by rw [AO,if_pos rfl]))
   (have c5:=ih (σ.AL i (psA L s5)) s5 g0 h5 (by omega) b5;rw [A0] at c5;have h6:=h5.run (Bq n);have l6:=PM.le (Bq n) h5.wf;generalize (Bq n).run s5=y at c5 h6 l6 ⊢;obtain ⟨x5,s6⟩:=y;simp only at c5 h6 l6 ⊢;have b6:(σ.AL i (psA L s6)).blk i=some (psA L s6):=(by rw [AO,if_pos rfl]);obtain ⟨o5,n5,u5,ns5,ks5,al5⟩:=x5;simp only [exA,Ex.A3,AE,AH] at c5 ⊢)
   (have c6:=(Ck i L n [101,110,100] (by decide)) (σ.AL i (psA L s6)) s6 g0 h6 (by omega) b6;rw [A0] at c6;have h7:=h6.run (PM.exp [101,110,100] (by decide));have l7:=PM.le (PM.exp [101,110,100] (by decide)) h6.wf;generalize (PM.exp [101,110,100] (by decide)).run s6=y at c6 h7 l7 ⊢;obtain ⟨x6,s7⟩:=y;simp only at c6 h7 l7 ⊢;have b7:(σ.AL i (psA L s7)).blk i=some (psA L s7):=(by rw [AO,if_pos rfl]))
   (repeat' (first|refine Run.ct rfl ?_|((first|refine Run.reg mixed ?_|refine Run.AM ?_|refine Run.Af CC (AN.le_refl _) ?_|(refine AG.upd c0 ?_)|(refine AG.upd c1 ?_)|(refine AG.upd c2 ?_)|(refine AG.upd c3 ?_)|(refine AG.upd c4 ?_)|(refine AG.upd c5 ?_)|(refine AG.upd c6 ?_)|refine AG.det (f1) ?_|refine AG.det (f2) ?_|refine AG.det (f3) ?_|refine AG.det (f4) ?_|(refine AQ rfl (fun h=>?_) (fun h=>?_)<;>try (cases h;done)))<;>try simp -implicitDefEqProofs only [go_sem])|(refine ⟨fun h=>?_,fun h=>?_⟩<;>first|(cases h;done)|try simp only [h])|fail))
  |false=>
  have f5:=Ci h0 _ σ b0 t5
  simp only [if_false,AY]
  (have c0:=(nZ i hN n ih) σ s0 g0 h0 (by omega) b0;have h1:=h0.run (Ud (Bq n));have l1:=PM.le (Ud (Bq n)) h0.wf;generalize (Ud (Bq n)).run s0=y at c0 h1 l1 ⊢;obtain ⟨x0,s1⟩:=y;simp only at c0 h1 l1 ⊢;have b1:(σ.AL i (psA L s1)).blk i=some (psA L s1):=(by rw [AO,if_pos rfl]);obtain ⟨o0,n0,u0,ns0,ks0,al0⟩:=x0;simp only [exA,Ex.A3,AE,AH] at c0 ⊢)
  (repeat' (first|refine Run.ct rfl ?_|((first|refine Run.reg mixed ?_|refine Run.AM ?_|refine Run.Af CC (AN.le_refl _) ?_|(refine AG.upd c0 ?_)|refine AG.det (f1) ?_|refine AG.det (f2) ?_|refine AG.det (f3) ?_|refine AG.det (f4) ?_|refine AG.det (f5) ?_|(refine AQ rfl (fun h=>?_) (fun h=>?_)<;>try (cases h;done)))<;>try simp -implicitDefEqProofs only [go_sem])|(refine ⟨fun h=>?_,fun h=>?_⟩<;>first|(cases h;done)|try simp only [h])|fail))
end Go.Ab
