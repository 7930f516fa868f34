/- The parser: applications, products, sums, comparisons. The parser: products, sums, comparisons, binders, expressions. The parser: comparisons, binders, expressions. Conditions: none. -/
import Derived.Test.YtifplkldbbcldaaGreatDoorXUf
set_option linter.unusedSimpArgs false
set_option linter.unusedVariables false
set_option maxRecDepth 4000
set_option maxHeartbeats 8000000
open List renaming all_eq_true→A5,getElem_of_mem→Cf,getElem?_eq_getElem→Aq,mem_of_getElem?→A6,map_cons→AD,map_nil→AG,length_pos_iff→Ar,length_map→AF,length_cons→AE,length_nil→AH
open Option renaming map_some→C7
open Option.some renaming injEq→AR,inj→Gv
open Bool renaming false_eq_true→A1
namespace Go.Ab
open Go.Proofs
theorem Run.rA {cx:Cx} {KK:AV→AM→Prop} {k:List CI} {F:Fm} {L L':Lm} {σ:AM} (hL:∀q cs',L' q=some cs'→∃cs,L q=some cs∧(cs'=cs∨cs'=AV.FL cs)) (h:Run cx KK k F L' σ):Run cx KK k F L σ:=by
 intro items base g lam Pr a w0 w b cs0 hi0 hf hb hk
 refine h items base g lam Pr a w0 w b cs0 hi0 ⟨hf.tm,hf.sz,hf.df,fun q cs' hq=>?_,hf.inj,hf.npr,hf.rel⟩ hb hk
 obtain ⟨cs,hc,hp⟩:=hL q cs' hq
 obtain ⟨hok,b',vs,ty,h1,h2,h3,h4⟩:=hf.loc q cs hc
 refine ⟨?_,b',vs,ty,h1,h2,h3,?_⟩
 · rcases hp with rfl|rfl
   · exact hok
   · simp only [Ag,A5] at hok ⊢
     intro v hv
     obtain ⟨i,hi,rfl⟩:=Cf hv
     have h1:=NY cs i
     rw [Aq hi] at h1
     cases hcs:cs[i]? with
     |none=>rw [hcs] at h1;cases h1
     |some c'=>rw [hcs] at h1;simp only [C7,AR] at h1;rw [h1];exact YU (hok c' (A6 hcs))
 · rcases hp with rfl|rfl
   · exact h4
   · exact h4.plain
def exC (e:Ex):List AV:=e.enc.map AV.d
theorem Pt (o:Int) (n:Str) (u:Int) (ns:List Str) (ks:List Ex) (al:List Al):[AV.d (.int .i64 o),.d (.str n),.d (.int .i64 u),.d (.sl (ns.map Dt)),.d (.sl (ks.map Ex.enc)),.d (.sl (al.map Al.enc))]=exC (.mk o n u ns ks al):=by
 rw [exC,Ex.A2];rfl
theorem Xo (i:Nat) (L:List Tok) (n:Nat) {E:PM Ex} (hE:PC 131 [.gp i 0] i L n E exA):PC 208 [.gp i 0,.fn 131 [.gp i 0] []] i L n (closed E) (fun l=>.d (.sl (l.map Ex.enc))):=(UF i L n XR hE).pc
theorem xC {E:PM Ex} {n:Nat} {a:Ex} {s:PSt} (hc:(s.hd.text==[40])=true):(UA E (n+1) a).run s=(UA E n (exN 12 0 (a::((closed E).run s.adv).1))).run ((closed E).run s.adv).2:=if_pos hc
theorem xB {E:PM Ex} {n:Nat} {a:Ex} {s:PSt} (hc:(s.hd.text==[40])=false):(UA E (n+1) a).run s=(a,s):=if_neg (by rw [hc];decide)
set_option maxHeartbeats 2000000 in
theorem oS (i:Nat) {L:List Tok} (hN:NOk L) (n:Nat) {E:PM Ex} (hE:PC 131 [.gp i 0] i L n E exA):PC 204 [.gp i 0] i L (n+1) (RQ E) exA:=by
 intro σ s0 g0 h0 l0 b0
 refine TH (by simp) ?_
 rw [BO]
 simp only [RQ,run_bind]
 (have c0:=(uX i hN n hE) σ s0 g0 h0 (by omega) b0;have h1:=h0.run (Ip E);have l1:=PM.le (Ip E) h0.wf;generalize (Ip E).run s0=y at c0 h1 l1 ⊢;obtain ⟨x0,s1⟩:=y;simp only at c0 h1 l1 ⊢;have b1:(σ.AL i (psA L s1)).blk i=some (psA L s1):=(by rw [AO,if_pos rfl]);obtain ⟨o0,n0,u0,ns0,ks0,al0⟩:=x0;simp only [exA,Ex.A2,AD,AG] at c0 ⊢)
 (repeat' (first|refine Run.ct rfl ?_|((first|refine Run.reg mixed ?_|refine Run.AJ ?_|(refine AI.upd c0 ?_)|(refine AP rfl (fun h=>?_) (fun h=>?_)<;>try (cases h;done)))<;>try simp -implicitDefEqProofs only [go_sem])|(refine ⟨fun h=>?_,fun h=>?_⟩<;>first|(cases h;done)|try simp only [h])|fail))
 rw [Pt]
 refine Run.Bl ?_
 have hf0:=Fk
 have hl0:=h0.suf.length_le
 have hl1:=h0.len
 refine Run.Bm (α:=PSt×Ex×Nat) (fun _=>put 0 (.gp i 0) (put 2 (.lp 2 0) (put 3 (.lp 3 0) U))) (fun y=>B6 2 [.d (.int .i64 0),.d (.str []),.d (.int .i64 0),.AW,.AW,.AW] (B6 3 (exC y.2.1) Ab.E)) (fun y=>σ.AL i (psA L y.1)) (fun y=>POk L y.1∧y.1.r.length≤n+1∧y.1.r.length≤y.2.2∧(UA E y.2.2 y.2.1).run y.1=(UA E BE (Ex.mk o0 n0 u0 ns0 ks0 al0)).run s1) (fun y=>y.1.r.length) ?_ (s1,(Ex.mk o0 n0 u0 ns0 ks0 al0),BE) ⟨h1,by simp only;omega,by simp only;omega,rfl⟩
 rintro ⟨s2,a,q⟩ ⟨p1,p2,p3,p4⟩ ih
 simp only at p1 p2 p3 p4
 have b2:(σ.AL i (psA L s2)).blk i=some (psA L s2):=(by rw [AO,if_pos rfl])
 obtain ⟨q,rfl⟩:∃m,q=m+1:=⟨q - 1,by have:=Ar.2 p1.wf.ne;omega⟩
 have hlen:=UG (read:=E) (s:=s2.adv)
 obtain ⟨o,nm,u,ns,ks,al⟩:=a
 simp only [← Pt]
 cases hc:s2.hd.text==[40] with
 |false=>
  rw [xB hc] at p4
  rw [← p4]
  simp only [exA,exN,Ex.A2,AD,AG]
  (repeat' (first|refine Run.ct rfl ?_|((first|refine Run.reg mixed ?_|refine Run.AJ ?_|refine Run.A9 MP (AM.le_refl _) ?_|refine AI.det (DG p1 _ (σ.AL i (psA L s2)) b2 hc) ?_|(refine AP rfl (fun h=>?_) (fun h=>?_)<;>try (cases h;done)))<;>try simp -implicitDefEqProofs only [go_sem])|(refine ⟨fun h=>?_,fun h=>?_⟩<;>first|(cases h;done)|try simp only [h])|fail))
 |true=>
  rw [xC hc] at p4
  have h2:=p1
  (have c2:=DH h2 [40] (σ.AL i (psA L s2)) b2 hc;rw [A3] at c2;have h3:=h2.adv (t:=[40]) (by decide) hc;have l3:=BP h2.wf;generalize s2.adv=s3 at c2 h3 l3 p4 ⊢;have b3:(σ.AL i (psA L s3)).blk i=some (psA L s3):=by rw [AO,if_pos rfl])
  have d3:=fun tk:Nat=>Xo i L n hE ((σ.AL i (psA L s3)).D4 tk) s3 g0 h3 (by omega) (by rw [GK];exact b3)
  have c3:=Xo i L n hE (σ.AL i (psA L s3)) s3 g0 h3 (by omega) b3
  rw [A3] at c3
  have h4:=h3.run (closed E)
  have l4:=PM.le (closed E) h3.wf
  have n3:=UG (read:=E) h3.wf
  generalize (closed E).run s3=y at c3 d3 h4 l4 n3 p4
  obtain ⟨x3,s4⟩:=y
  simp only at c3 d3 h4 l4 n3 p4
  have q3:=h3.suf.length_le
  have hfin:∀v2 τ2,LS σ i L s4 44 6 ((Ex.mk o nm u ns ks al::x3).map Ex.enc) v2 τ2→Run D3 (fun v σ'=>v= .agg (((UA E BE (Ex.mk o0 n0 u0 ns0 ks0 al0)).run s1).1.enc.map AV.d)∧σ'=σ.AL i (psA L ((UA E BE (Ex.mk o0 n0 u0 ns0 ks0 al0)).run s1).2))
   [CI.again JM,CI.blk 0,CI.code ((C.reg [⟨some 16,.ldl (.t 3) (some 6),none⟩,⟨none,.st (.t 2) (.t 16) 6,none⟩] [2]).seq C.ret)]
   (put 0 (.gp i 0) (put 2 (.lp 2 0) (put 3 (.lp 3 0) U))) (B6 2 [.d (.int .i64 0),.d (.str []),.d (.int .i64 0),.AW,.AW,.AW] (B6 3 [.d (.int .i64 12),.d (.str []),.d (.int .i64 0),.AW,v2,.AW] Ab.E)) τ2:=fun v2 τ2 ho=>by
   refine Run.jI (σ':=σ.AL i (psA L s4)) (fun _=>.inl rfl) (fun _ _ h=>h) ho.le ?_
   have hpl:AV.FL [.d (.int .i64 12),.d (.str []),.d (.int .i64 0),.AW,v2,.AW]=exC (exN 12 0 (Ex.mk o nm u ns ks al::x3)):=by
    rw [exN,← Pt]
    simp only [AV.FL,AV.plain,ho.own.plain,AG]
   refine Run.rA (L':=B6 2 [.d (.int .i64 0),.d (.str []),.d (.int .i64 0),.AW,.AW,.AW] (B6 3 (exC (exN 12 0 (Ex.mk o nm u ns ks al::x3))) Ab.E)) (fun q' cs' hq=>?_) (ih (s4,exN 12 0 (Ex.mk o nm u ns ks al::x3),q) ⟨h4,by simp only;omega,by simp only;omega,p4⟩ (by simp only;omega))
   by_cases e2:q'=2
   · subst e2
     exact ⟨cs',hq,.inl rfl⟩
   · by_cases e3:q'=3
     · subst e3
       have:cs'=exC (exN 12 0 (Ex.mk o nm u ns ks al::x3)):=(Gv hq).symm
       exact ⟨_,rfl,.inr (by rw [this,hpl])⟩
     · simp [B6,e2,e3,Ab.E] at hq
  (repeat' (first|refine Run.ct rfl ?_|((first|refine Run.reg mixed ?_|refine Run.AJ ?_|(refine AI.upd c2 ?_)|(refine AP rfl (fun h=>?_) (fun h=>?_)<;>try (cases h;done)))<;>try simp -implicitDefEqProofs only [go_sem])|(refine ⟨fun h=>?_,fun h=>?_⟩<;>first|(cases h;done)|try simp only [h])|fail))
  refine Run.SZ mixed ?_;simp -implicitDefEqProofs only [go_sem]
  refine ⟨?_,?_⟩
  · refine Ia.own rfl (by decide) (fun tk htk=>?_);simp -implicitDefEqProofs only [go_sem]
    refine AI.upd (d3 tk) ?_;simp -implicitDefEqProofs only [go_sem]
    (apply LS.tok (LS.uC htk s4);rfl;exact (N1 _ _ Ex.tU);(simp only [AF,AE,AH];omega);decide;intro v2 τ2 ho);simp -implicitDefEqProofs only [ho.own.BQ,ho.own.Av,ho.own.cells,ho.own.cell,ho.own.plain,ho.own.dv,if_true,go_sem]
    (repeat' (first|refine Run.ct rfl ?_|((first|refine Run.reg mixed ?_|refine Run.AJ ?_|(refine AP rfl (fun h=>?_) (fun h=>?_)<;>try (cases h;done)))<;>try simp -implicitDefEqProofs only [ho.own.BQ,ho.own.Av,ho.own.cells,ho.own.cell,ho.own.plain,ho.own.dv,if_true,go_sem])|(refine ⟨fun h=>?_,fun h=>?_⟩<;>first|(cases h;done)|try simp only [h])|fail))
    exact hfin v2 τ2 (by rw [AD,Ex.A2];exact ho)
  · refine AI.upd c3 ?_;simp -implicitDefEqProofs only [go_sem]
    refine Ia.own rfl (by decide) (fun tk htk=>?_);simp -implicitDefEqProofs only [go_sem]
    (apply LS.tok (LS.uB htk);rfl;exact (N1 _ _ Ex.tU);(simp only [AF,AE,AH];omega);decide;intro v2 τ2 ho);simp -implicitDefEqProofs only [ho.own.BQ,ho.own.Av,ho.own.cells,ho.own.cell,ho.own.plain,ho.own.dv,if_true,go_sem]
    (repeat' (first|refine Run.ct rfl ?_|((first|refine Run.reg mixed ?_|refine Run.AJ ?_|(refine AP rfl (fun h=>?_) (fun h=>?_)<;>try (cases h;done)))<;>try simp -implicitDefEqProofs only [ho.own.BQ,ho.own.Av,ho.own.cells,ho.own.cell,ho.own.plain,ho.own.dv,if_true,go_sem])|(refine ⟨fun h=>?_,fun h=>?_⟩<;>first|(cases h;done)|try simp only [h])|fail))
    exact hfin v2 τ2 (by rw [AD,Ex.A2];exact ho)
end Go.Ab
namespace Go.Ab
open Go.Proofs
theorem Zu (lv:Nat) (t:Str):∀n k,k+n≤9→Kb lv t n k≤8
 |0,k,_=>by rw [Kb];omega
 |n+1,k,h=>by
  rw [Kb];split
  · omega
  · exact Zu lv t n (k+1) (by omega)
theorem q8 (lv:Nat) (t:Str):opR lv t≤8:=Zu lv t 8 1 (by omega)
theorem Zv {lv:Nat} {t:Str}:∀ {n k:Nat},Kb lv t n k≠0→∃x,x≠[]∧(t==x)=true
 |0,k,h=>by rw [Kb] at h;exact absurd rfl h
 |n+1,k,h=>by
  rw [Kb] at h;split at h
  · rename_i hh
    refine ⟨_,?_,hh.2⟩
    unfold opT VV
    split<;>simp
  · exact Zv h
theorem iC {lv:Nat} {t:Str} (h:opR lv t≠0):∃x,x≠[]∧(t==x)=true:=Zv h
theorem uZ {E:PM Ex} {n:Nat} {a:Ex} {s:PSt} (hc:opR 3 s.hd.text≠0):(KU E (n+1) a).run s=(KU E n (Hk ((opR 3 s.hd.text:Nat):Int) a ((RQ E).run s.adv).1)).run ((RQ E).run s.adv).2:=by
 rw [KU]
 simp only [H8,run_bind]
 rw [AAN] at hc ⊢
 cases h0:s.hd.text==[42] with
 |true=>simp
 |false=>
 cases h1:s.hd.text==[47] with
 |true=>simp
 |false=>
 cases h2:s.hd.text==[37] with
 |true=>simp
 |false=>
 simp [h0,h1,h2] at hc
theorem uY {E:PM Ex} {n:Nat} {a:Ex} {s:PSt} (hc:opR 3 s.hd.text=0):(KU E (n+1) a).run s=(a,s):=by
 rw [KU]
 simp only [H8,run_pure]
 rw [AAN] at hc
 cases h0:s.hd.text==[42] with
 |true=>simp [h0] at hc
 |false=>
 cases h1:s.hd.text==[47] with
 |true=>simp [h0,h1] at hc
 |false=>
 cases h2:s.hd.text==[37] with
 |true=>simp [h0,h1,h2] at hc
 |false=>
 simp
set_option maxHeartbeats 2000000 in
theorem kP (i:Nat) {L:List Tok} (hN:NOk L) (n:Nat) {E:PM Ex} (hE:PC 131 [.gp i 0] i L n E exA):PC 197 [.gp i 0] i L (n+1) (MT E) exA:=by
 intro σ s0 g0 h0 l0 b0
 refine SH (by simp) ?_
 rw [BO]
 simp only [MT,run_bind]
 (have c0:=(oS i hN n hE) σ s0 g0 h0 (by omega) b0;have h1:=h0.run (RQ E);have l1:=PM.le (RQ E) h0.wf;generalize (RQ E).run s0=y at c0 h1 l1 ⊢;obtain ⟨x0,s1⟩:=y;simp only at c0 h1 l1 ⊢;have b1:(σ.AL i (psA L s1)).blk i=some (psA L s1):=(by rw [AO,if_pos rfl]);obtain ⟨o0,n0,u0,ns0,ks0,al0⟩:=x0;simp only [exA,Ex.A2,AD,AG] at c0 ⊢)
 have c1:=L3 h1 3 (σ.AL i (psA L s1)) b1
 rw [A3] at c1
 (repeat' (first|refine Run.ct rfl ?_|((first|refine Run.reg mixed ?_|refine Run.AJ ?_|(refine AI.upd c0 ?_)|(refine AI.upd c1 ?_)|(refine AP rfl (fun h=>?_) (fun h=>?_)<;>try (cases h;done)))<;>try simp -implicitDefEqProofs only [go_sem])|(refine ⟨fun h=>?_,fun h=>?_⟩<;>first|(cases h;done)|try simp only [h])|fail))
 rw [Pt]
 refine Run.Bl ?_
 have hf0:=Fk
 have hl0:=h0.suf.length_le
 have hl1:=h0.len
 refine Run.Bm (α:=PSt×Ex×Nat) (fun y=>put 0 (.gp i 0) (put 2 (.lp 2 0) (put 3 (.lp 3 0) (put 4 (.d (.int .i64 ((opR 3 y.1.hd.text:Nat):Int))) U)))) (fun y=>B6 2 [.d (.int .i64 0),.d (.str []),.d (.int .i64 0),.AW,.AW,.AW] (B6 3 (exC y.2.1) Ab.E)) (fun y=>if opR 3 y.1.hd.text=0 then σ.AL i (psA L y.1) else σ.AL i (psA L y.1.adv)) (fun y=>POk L y.1∧y.1.r.length≤n+1∧y.1.r.length≤y.2.2∧(KU E y.2.2 y.2.1).run y.1=(KU E BE (Ex.mk o0 n0 u0 ns0 ks0 al0)).run s1) (fun y=>y.1.r.length) ?_ (s1,(Ex.mk o0 n0 u0 ns0 ks0 al0),BE) ⟨h1,by simp only;omega,by simp only;omega,rfl⟩
 rintro ⟨s2,a,q⟩ ⟨p1,p2,p3,p4⟩ ih
 simp only at p1 p2 p3 p4
 have b2:(σ.AL i (psA L s2)).blk i=some (psA L s2):=(by rw [AO,if_pos rfl])
 obtain ⟨q,rfl⟩:∃m,q=m+1:=⟨q - 1,by have:=Ar.2 p1.wf.ne;omega⟩
 obtain ⟨o,nm,u,ns,ks,al⟩:=a
 simp only [← Pt]
 by_cases hc:opR 3 s2.hd.text=0
 · rw [uY hc] at p4
   rw [← p4]
   have hne:(((opR 3 s2.hd.text:Nat):Int) != 0)=false:=by rw [hc];rfl
   simp only [exA,exN,Ex.A2,AD,AG,if_pos hc]
   (repeat' (first|refine Run.ct rfl ?_|((first|refine Run.reg mixed ?_|refine Run.AJ ?_|refine Run.A9 LW (AM.le_refl _) ?_|(refine AP rfl (fun h=>?_) (fun h=>?_)<;>try (cases h;done)))<;>try simp -implicitDefEqProofs only [hne,go_sem])|(refine ⟨fun h=>?_,fun h=>?_⟩<;>first|(cases h;done)|try simp only [h])|fail))
 · rw [uZ hc] at p4
   have hne:(((opR 3 s2.hd.text:Nat):Int) != 0)=true:=by simp;exact hc
   simp only [if_neg hc]
   have h3:POk L s2.adv:=by
    rcases (iC hc) with ⟨t,ht,he⟩
    exact p1.adv ht he
   have l3:=BP p1.wf
   have hop:=q8 3 s2.hd.text
   generalize opR 3 s2.hd.text=w at p4 hne hop ⊢
   generalize s2.adv=s3 at p4 h3 l3 ⊢
   have b3:(σ.AL i (psA L s3)).blk i=some (psA L s3):=(by rw [AO,if_pos rfl])
   (have c3:=(oS i hN n hE) (σ.AL i (psA L s3)) s3 g0 h3 (by omega) b3;rw [A3] at c3;have h4:=h3.run (RQ E);have l4:=PM.le (RQ E) h3.wf;generalize (RQ E).run s3=y at c3 h4 l4 p4 ⊢;obtain ⟨x3,s4⟩:=y;simp only at c3 h4 l4 p4 ⊢;have b4:(σ.AL i (psA L s4)).blk i=some (psA L s4):=(by rw [AO,if_pos rfl]);obtain ⟨o3,n3,u3,ns3,ks3,al3⟩:=x3;simp only [exA,Ex.A2,AD,AG] at c3 ⊢)
   have c4:=Vc (w:Int) (.mk o nm u ns ks al) (Ex.mk o3 n3 u3 ns3 ks3 al3) (σ.AL i (psA L s4))
   simp only [exA,Ex.A2,Hk,exN,AD,AG] at c4
   have c5:=L3 h4 3 (σ.AL i (psA L s4)) b4
   rw [A3] at c5
   (repeat' (first|refine Run.ct rfl ?_|((first|refine Run.reg mixed ?_|refine Run.AJ ?_|(refine AI.upd c3 ?_)|(refine AI.upd c5 ?_)|refine AI.det (c4) ?_|(refine AP rfl (fun h=>?_) (fun h=>?_)<;>try (cases h;done)))<;>try simp -implicitDefEqProofs only [hne,go_sem])|(refine ⟨fun h=>?_,fun h=>?_⟩<;>first|(cases h;done)|try simp only [h])|fail))
   have hx:=Pt 13 [] (w:Int) [] [.mk o nm u ns ks al,(Ex.mk o3 n3 u3 ns3 ks3 al3)] []
   simp only [Ex.A2,AD,AG] at hx
   rw [hx]
   exact ih (s4,Hk (w:Int) (.mk o nm u ns ks al) (Ex.mk o3 n3 u3 ns3 ks3 al3),q) ⟨h4,by simp only;omega,by simp only;omega,p4⟩ (by simp only;omega)
theorem yY {E:PM Ex} {n:Nat} {a:Ex} {s:PSt} (hc:opR 2 s.hd.text≠0):(TX E (n+1) a).run s=(TX E n (Hk ((opR 2 s.hd.text:Nat):Int) a ((MT E).run s.adv).1)).run ((MT E).run s.adv).2:=by
 rw [TX]
 simp only [H8,run_bind]
 rw [AAM] at hc ⊢
 cases h0:s.hd.text==[43] with
 |true=>simp
 |false=>
 cases h1:s.hd.text==[45] with
 |true=>simp
 |false=>
 simp [h0,h1] at hc
theorem yX {E:PM Ex} {n:Nat} {a:Ex} {s:PSt} (hc:opR 2 s.hd.text=0):(TX E (n+1) a).run s=(a,s):=by
 rw [TX]
 simp only [H8,run_pure]
 rw [AAM] at hc
 cases h0:s.hd.text==[43] with
 |true=>simp [h0] at hc
 |false=>
 cases h1:s.hd.text==[45] with
 |true=>simp [h0,h1] at hc
 |false=>
 simp
set_option maxHeartbeats 2000000 in
theorem r9 (i:Nat) {L:List Tok} (hN:NOk L) (n:Nat) {E:PM Ex} (hE:PC 131 [.gp i 0] i L n E exA):PC 186 [.gp i 0] i L (n+1) (L4 E) exA:=by
 intro σ s0 g0 h0 l0 b0
 refine TL (by simp) ?_
 rw [BO]
 simp only [L4,run_bind]
 (have c0:=(kP i hN n hE) σ s0 g0 h0 (by omega) b0;have h1:=h0.run (MT E);have l1:=PM.le (MT E) h0.wf;generalize (MT E).run s0=y at c0 h1 l1 ⊢;obtain ⟨x0,s1⟩:=y;simp only at c0 h1 l1 ⊢;have b1:(σ.AL i (psA L s1)).blk i=some (psA L s1):=(by rw [AO,if_pos rfl]);obtain ⟨o0,n0,u0,ns0,ks0,al0⟩:=x0;simp only [exA,Ex.A2,AD,AG] at c0 ⊢)
 have c1:=L3 h1 2 (σ.AL i (psA L s1)) b1
 rw [A3] at c1
 (repeat' (first|refine Run.ct rfl ?_|((first|refine Run.reg mixed ?_|refine Run.AJ ?_|(refine AI.upd c0 ?_)|(refine AI.upd c1 ?_)|(refine AP rfl (fun h=>?_) (fun h=>?_)<;>try (cases h;done)))<;>try simp -implicitDefEqProofs only [go_sem])|(refine ⟨fun h=>?_,fun h=>?_⟩<;>first|(cases h;done)|try simp only [h])|fail))
 rw [Pt]
 refine Run.Bl ?_
 have hf0:=Fk
 have hl0:=h0.suf.length_le
 have hl1:=h0.len
 refine Run.Bm (α:=PSt×Ex×Nat) (fun y=>put 0 (.gp i 0) (put 2 (.lp 2 0) (put 3 (.lp 3 0) (put 4 (.d (.int .i64 ((opR 2 y.1.hd.text:Nat):Int))) U)))) (fun y=>B6 2 [.d (.int .i64 0),.d (.str []),.d (.int .i64 0),.AW,.AW,.AW] (B6 3 (exC y.2.1) Ab.E)) (fun y=>if opR 2 y.1.hd.text=0 then σ.AL i (psA L y.1) else σ.AL i (psA L y.1.adv)) (fun y=>POk L y.1∧y.1.r.length≤n+1∧y.1.r.length≤y.2.2∧(TX E y.2.2 y.2.1).run y.1=(TX E BE (Ex.mk o0 n0 u0 ns0 ks0 al0)).run s1) (fun y=>y.1.r.length) ?_ (s1,(Ex.mk o0 n0 u0 ns0 ks0 al0),BE) ⟨h1,by simp only;omega,by simp only;omega,rfl⟩
 rintro ⟨s2,a,q⟩ ⟨p1,p2,p3,p4⟩ ih
 simp only at p1 p2 p3 p4
 have b2:(σ.AL i (psA L s2)).blk i=some (psA L s2):=(by rw [AO,if_pos rfl])
 obtain ⟨q,rfl⟩:∃m,q=m+1:=⟨q - 1,by have:=Ar.2 p1.wf.ne;omega⟩
 obtain ⟨o,nm,u,ns,ks,al⟩:=a
 simp only [← Pt]
 by_cases hc:opR 2 s2.hd.text=0
 · rw [yX hc] at p4
   rw [← p4]
   have hne:(((opR 2 s2.hd.text:Nat):Int) != 0)=false:=by rw [hc];rfl
   simp only [exA,exN,Ex.A2,AD,AG,if_pos hc]
   (repeat' (first|refine Run.ct rfl ?_|((first|refine Run.reg mixed ?_|refine Run.AJ ?_|refine Run.A9 MS (AM.le_refl _) ?_|(refine AP rfl (fun h=>?_) (fun h=>?_)<;>try (cases h;done)))<;>try simp -implicitDefEqProofs only [hne,go_sem])|(refine ⟨fun h=>?_,fun h=>?_⟩<;>first|(cases h;done)|try simp only [h])|fail))
 · rw [yY hc] at p4
   have hne:(((opR 2 s2.hd.text:Nat):Int) != 0)=true:=by simp;exact hc
   simp only [if_neg hc]
   have h3:POk L s2.adv:=by
    rcases (iC hc) with ⟨t,ht,he⟩
    exact p1.adv ht he
   have l3:=BP p1.wf
   have hop:=q8 2 s2.hd.text
   generalize opR 2 s2.hd.text=w at p4 hne hop ⊢
   generalize s2.adv=s3 at p4 h3 l3 ⊢
   have b3:(σ.AL i (psA L s3)).blk i=some (psA L s3):=(by rw [AO,if_pos rfl])
   (have c3:=(kP i hN n hE) (σ.AL i (psA L s3)) s3 g0 h3 (by omega) b3;rw [A3] at c3;have h4:=h3.run (MT E);have l4:=PM.le (MT E) h3.wf;generalize (MT E).run s3=y at c3 h4 l4 p4 ⊢;obtain ⟨x3,s4⟩:=y;simp only at c3 h4 l4 p4 ⊢;have b4:(σ.AL i (psA L s4)).blk i=some (psA L s4):=(by rw [AO,if_pos rfl]);obtain ⟨o3,n3,u3,ns3,ks3,al3⟩:=x3;simp only [exA,Ex.A2,AD,AG] at c3 ⊢)
   have c4:=Vc (w:Int) (.mk o nm u ns ks al) (Ex.mk o3 n3 u3 ns3 ks3 al3) (σ.AL i (psA L s4))
   simp only [exA,Ex.A2,Hk,exN,AD,AG] at c4
   have c5:=L3 h4 2 (σ.AL i (psA L s4)) b4
   rw [A3] at c5
   (repeat' (first|refine Run.ct rfl ?_|((first|refine Run.reg mixed ?_|refine Run.AJ ?_|(refine AI.upd c3 ?_)|(refine AI.upd c5 ?_)|refine AI.det (c4) ?_|(refine AP rfl (fun h=>?_) (fun h=>?_)<;>try (cases h;done)))<;>try simp -implicitDefEqProofs only [hne,go_sem])|(refine ⟨fun h=>?_,fun h=>?_⟩<;>first|(cases h;done)|try simp only [h])|fail))
   have hx:=Pt 13 [] (w:Int) [] [.mk o nm u ns ks al,(Ex.mk o3 n3 u3 ns3 ks3 al3)] []
   simp only [Ex.A2,AD,AG] at hx
   rw [hx]
   exact ih (s4,Hk (w:Int) (.mk o nm u ns ks al) (Ex.mk o3 n3 u3 ns3 ks3 al3),q) ⟨h4,by simp only;omega,by simp only;omega,p4⟩ (by simp only;omega)
end Go.Ab
namespace Go.Ab
open Go.Proofs
theorem Run.yQ {cx:Cx} {KK:AV→AM→Prop} {k:List CI} {F:Fm} {q0 q:Nat} {A cs:List AV} {σ σ':AM} (hσ:σ'.le σ) (h:Run cx KK k F (B6 q0 A (B6 q (AV.FL cs) E)) σ'):Run cx KK k F (B6 q0 A (B6 q cs E)) σ:=by
 refine Run.jI (σ':=σ') (fun _=>.inl rfl) (fun _ _ h=>h) hσ (Run.rA (fun q' cs' hq=>?_) h)
 by_cases e2:q'=q0
 · subst e2
   have:cs'=A:=by simpa [B6] using hq.symm
   exact ⟨A,by simp [B6],.inl this⟩
 · by_cases e3:q'=q
   · subst e3
     have:cs'=AV.FL cs:=by simpa [B6,e2] using hq.symm
     exact ⟨cs,by simp [B6,e2],.inr this⟩
   · simp [B6,e2,e3,E] at hq
theorem bC:Am Tryz.prog 172=true:=by kernel_rfl
theorem bD:Am Tryz.prog 126=true:=by kernel_rfl
theorem xY:Am Tryz.prog 171=true:=by kernel_rfl
theorem xZ:Am Tryz.prog 129=true:=by kernel_rfl
theorem pH (E:PM Ex) (s:PSt):(Wc E).run s=if opR 1 ((L4 E).run s).2.hd.text=0 then (L4 E).run s else (Hk ((opR 1 ((L4 E).run s).2.hd.text:Nat):Int) ((L4 E).run s).1 ((L4 E).run ((L4 E).run s).2.adv).1,((L4 E).run ((L4 E).run s).2.adv).2):=by
 simp only [Wc,run_bind,H8,run_pure]
 generalize (L4 E).run s=y
 obtain ⟨a,s1⟩:=y
 simp only
 rw [ABG]
 cases h0:s1.hd.text==[60] with
 |true=>simp
 |false=>
 cases h1:s1.hd.text==[60,61] with
 |true=>simp
 |false=>
 cases h2:s1.hd.text==[61,61] with
 |true=>simp
 |false=>simp
theorem sW (i:Nat) {L:List Tok} (hN:NOk L) (n:Nat) {E:PM Ex} (hE:PC 131 [.gp i 0] i L n E exA):PC 173 [.gp i 0] i L (n+1) (Wc E) exA:=by
 intro σ s0 g0 h0 l0 b0
 refine SA (by simp) ?_
 rw [BO,pH]
 (have c0:=(r9 i hN n hE) σ s0 g0 h0 (by omega) b0;have h1:=h0.run (L4 E);have l1:=PM.le (L4 E) h0.wf;generalize (L4 E).run s0=y at c0 h1 l1 ⊢;obtain ⟨x0,s1⟩:=y;simp only at c0 h1 l1 ⊢;have b1:(σ.AL i (psA L s1)).blk i=some (psA L s1):=(by rw [AO,if_pos rfl]);obtain ⟨o0,n0,u0,ns0,ks0,al0⟩:=x0;simp only [exA,Ex.A2,AD,AG] at c0 ⊢)
 have c1:=L3 h1 1 (σ.AL i (psA L s1)) b1
 rw [A3] at c1
 by_cases hc:opR 1 s1.hd.text=0
 · have hne:(((opR 1 s1.hd.text:Nat):Int) != 0)=false:=by rw [hc];rfl
   rw [if_pos hc] at c1 ⊢
   simp only [exA,exN,Ex.A2,AD,AG]
   (repeat' (first|refine Run.ct rfl ?_|((first|refine Run.reg mixed ?_|refine Run.AJ ?_|refine Run.A9 HL (AM.le_refl _) ?_|(refine AI.upd c0 ?_)|(refine AI.upd c1 ?_)|(refine AP rfl (fun h=>?_) (fun h=>?_)<;>try (cases h;done)))<;>try simp -implicitDefEqProofs only [hne,go_sem])|(refine ⟨fun h=>?_,fun h=>?_⟩<;>first|(cases h;done)|try simp only [h])|fail))
 · have hne:(((opR 1 s1.hd.text:Nat):Int) != 0)=true:=by simp;exact hc
   rw [if_neg hc] at c1 ⊢
   have h2:POk L s1.adv:=by
    rcases (iC hc) with ⟨t,ht,he⟩
    exact h1.adv ht he
   have l2:=BP h1.wf
   generalize opR 1 s1.hd.text=w at c1 hne ⊢
   generalize s1.adv=s2 at c1 h2 l2 ⊢
   have b2:(σ.AL i (psA L s2)).blk i=some (psA L s2):=(by rw [AO,if_pos rfl])
   (have c2:=(r9 i hN n hE) (σ.AL i (psA L s2)) s2 g0 h2 (by omega) b2;rw [A3] at c2;have h3:=h2.run (L4 E);have l3:=PM.le (L4 E) h2.wf;generalize (L4 E).run s2=y at c2 h3 l3 ⊢;obtain ⟨x2,s3⟩:=y;simp only at c2 h3 l3 ⊢;have b3:(σ.AL i (psA L s3)).blk i=some (psA L s3):=(by rw [AO,if_pos rfl]);obtain ⟨o2,n2,u2,ns2,ks2,al2⟩:=x2;simp only [exA,Ex.A2,AD,AG] at c2 ⊢)
   have c4:=Vc (w:Int) (Ex.mk o0 n0 u0 ns0 ks0 al0) (Ex.mk o2 n2 u2 ns2 ks2 al2) (σ.AL i (psA L s3))
   simp only [exA,Ex.A2,Hk,exN,AD,AG] at c4 ⊢
   (repeat' (first|refine Run.ct rfl ?_|((first|refine Run.reg mixed ?_|refine Run.AJ ?_|refine Run.A9 HL (AM.le_refl _) ?_|(refine AI.upd c0 ?_)|(refine AI.upd c1 ?_)|(refine AI.upd c2 ?_)|refine AI.det (c4) ?_|(refine AP rfl (fun h=>?_) (fun h=>?_)<;>try (cases h;done)))<;>try simp -implicitDefEqProofs only [hne,go_sem])|(refine ⟨fun h=>?_,fun h=>?_⟩<;>first|(cases h;done)|try simp only [h])|fail))
set_option maxHeartbeats 2000000 in
theorem yF (i:Nat) (L:List Tok) (n:Nat) {E:PM Ex} (hE:PC 131 [.gp i 0] i L n E exA):PC 169 [.gp i 0] i L n (eO E) exA:=by
 intro σ s0 g0 h0 l0 b0
 refine TK (by simp) ?_
 rw [BO]
 simp only [eO,H8]
 cases t0:s0.hd.text==[40] with
 |true=>
  simp only [if_true,run_bind,run_pure,exA,exN,Ex.A2,AD,AG]
  (have c0:=DH h0 [40] σ b0 t0;have h1:=h0.adv (t:=[40]) (by decide) t0;have l1:=BP h0.wf;generalize s0.adv=s1 at c0 h1 l1 ⊢;have b1:(σ.AL i (psA L s1)).blk i=some (psA L s1):=by rw [AO,if_pos rfl])
  (have c1:=(Sk i L n) (σ.AL i (psA L s1)) s1 g0 h1 (by omega) b1;rw [A3] at c1;have h2:=h1.run (G2);have l2:=PM.le (G2) h1.wf;generalize (G2).run s1=y at c1 h2 l2 ⊢;obtain ⟨x1,s2⟩:=y;simp only at c1 h2 l2 ⊢;have b2:(σ.AL i (psA L s2)).blk i=some (psA L s2):=(by rw [AO,if_pos rfl]))
  (have c2:=(DJ i L n [44] (by decide)) (σ.AL i (psA L s2)) s2 g0 h2 (by omega) b2;rw [A3] at c2;have h3:=h2.run (PM.exp [44] (by decide));have l3:=PM.le (PM.exp [44] (by decide)) h2.wf;generalize (PM.exp [44] (by decide)).run s2=y at c2 h3 l3 ⊢;obtain ⟨x2,s3⟩:=y;simp only at c2 h3 l3 ⊢;have b3:(σ.AL i (psA L s3)).blk i=some (psA L s3):=(by rw [AO,if_pos rfl]))
  (have d3:=fun tk:Nat=>(H7 i L n bC (Sk i L n)).pc ((σ.AL i (psA L s3)).D4 tk) s3 g0 h3 (by omega) (by rw [GK];exact b3);have c3:=(H7 i L n bC (Sk i L n)).pc (σ.AL i (psA L s3)) s3 g0 h3 (by omega) b3;rw [A3] at c3;have h4:=h3.run (listed G2);have l4:=PM.le (listed G2) h3.wf;have n3:=QR (read:=G2) h3.wf;generalize (listed G2).run s3=y at c3 d3 h4 l4 n3 ⊢;obtain ⟨x3,s4⟩:=y;simp only at c3 d3 h4 l4 n3 ⊢;have q3:=h0.suf.length_le;have q3':=h0.len)
  have b4:(σ.AL i (psA L s4)).blk i=some (psA L s4):=(by rw [AO,if_pos rfl])
  (have c4:=(DJ i L n [61] (by decide)) (σ.AL i (psA L s4)) s4 g0 h4 (by omega) b4;rw [A3] at c4;have h5:=h4.run (PM.exp [61] (by decide));have l5:=PM.le (PM.exp [61] (by decide)) h4.wf;generalize (PM.exp [61] (by decide)).run s4=y at c4 h5 l5 ⊢;obtain ⟨x4,s5⟩:=y;simp only at c4 h5 l5 ⊢;have b5:(σ.AL i (psA L s5)).blk i=some (psA L s5):=(by rw [AO,if_pos rfl]))
  (have c5:=hE (σ.AL i (psA L s5)) s5 g0 h5 (by omega) b5;rw [A3] at c5;have h6:=h5.run (E);have l6:=PM.le (E) h5.wf;generalize (E).run s5=y at c5 h6 l6 ⊢;obtain ⟨x5,s6⟩:=y;simp only at c5 h6 l6 ⊢;have b6:(σ.AL i (psA L s6)).blk i=some (psA L s6):=(by rw [AO,if_pos rfl]);obtain ⟨o5,n5,u5,ns5,ks5,al5⟩:=x5;simp only [exA,Ex.A2,AD,AG] at c5 ⊢)
  (have c6:=(DJ i L n [105,110] (by decide)) (σ.AL i (psA L s6)) s6 g0 h6 (by omega) b6;rw [A3] at c6;have h7:=h6.run (PM.exp [105,110] (by decide));have l7:=PM.le (PM.exp [105,110] (by decide)) h6.wf;generalize (PM.exp [105,110] (by decide)).run s6=y at c6 h7 l7 ⊢;obtain ⟨x6,s7⟩:=y;simp only at c6 h7 l7 ⊢;have b7:(σ.AL i (psA L s7)).blk i=some (psA L s7):=(by rw [AO,if_pos rfl]))
  (have c7:=hE (σ.AL i (psA L s7)) s7 g0 h7 (by omega) b7;rw [A3] at c7;have h8:=h7.run (E);have l8:=PM.le (E) h7.wf;generalize (E).run s7=y at c7 h8 l8 ⊢;obtain ⟨x7,s8⟩:=y;simp only at c7 h8 l8 ⊢;have b8:(σ.AL i (psA L s8)).blk i=some (psA L s8):=(by rw [AO,if_pos rfl]);obtain ⟨o7,n7,u7,ns7,ks7,al7⟩:=x7;simp only [exA,Ex.A2,AD,AG] at c7 ⊢)
  (repeat' (first|refine Run.ct rfl ?_|((first|refine Run.reg mixed ?_|refine Run.AJ ?_|(refine AI.upd c0 ?_)|(refine AI.upd c1 ?_)|(refine AI.upd c2 ?_)|(refine AP rfl (fun h=>?_) (fun h=>?_)<;>try (cases h;done)))<;>try simp -implicitDefEqProofs only [go_sem])|(refine ⟨fun h=>?_,fun h=>?_⟩<;>first|(cases h;done)|try simp only [h])|fail))
  refine Ia.own rfl (by decide) (fun tk htk=>?_);simp -implicitDefEqProofs only [go_sem]
  refine AI.upd (d3 tk) ?_;simp -implicitDefEqProofs only [go_sem]
  (apply LS.tok (LS.uC htk s4);rfl;exact (N1 _ _ (fun _=>rfl));(simp only [AF,AE,AH];omega);decide;intro v2 τ2 ho);simp -implicitDefEqProofs only [ho.own.BQ,ho.own.Av,ho.own.cells,ho.own.cell,ho.own.plain,ho.own.dv,if_true,go_sem]
  refine Run.yQ ho.le ?_
  simp only [AV.FL,AV.plain,ho.own.plain]
  (repeat' (first|refine Run.ct rfl ?_|((first|refine Run.reg mixed ?_|refine Run.AJ ?_|refine Run.A9 Hl (AM.le_refl _) ?_|(refine AI.upd c4 ?_)|(refine AI.upd c5 ?_)|(refine AI.upd c6 ?_)|(refine AI.upd c7 ?_)|(refine AP rfl (fun h=>?_) (fun h=>?_)<;>try (cases h;done)))<;>try simp -implicitDefEqProofs only [go_sem])|(refine ⟨fun h=>?_,fun h=>?_⟩<;>first|(cases h;done)|try simp only [h])|fail))
  rfl
 |false=>
  have f0:=DG h0 _ σ b0 t0
  simp only [if_false,A1,run_bind,run_pure,exA,exN,Ex.A2,AD,AG]
  (have c0:=(Sk i L n) σ s0 g0 h0 (by omega) b0;have h1:=h0.run (G2);have l1:=PM.le (G2) h0.wf;generalize (G2).run s0=y at c0 h1 l1 ⊢;obtain ⟨x0,s1⟩:=y;simp only at c0 h1 l1 ⊢;have b1:(σ.AL i (psA L s1)).blk i=some (psA L s1):=(by rw [AO,if_pos rfl]))
  (have c1:=(DJ i L n [61] (by decide)) (σ.AL i (psA L s1)) s1 g0 h1 (by omega) b1;rw [A3] at c1;have h2:=h1.run (PM.exp [61] (by decide));have l2:=PM.le (PM.exp [61] (by decide)) h1.wf;generalize (PM.exp [61] (by decide)).run s1=y at c1 h2 l2 ⊢;obtain ⟨x1,s2⟩:=y;simp only at c1 h2 l2 ⊢;have b2:(σ.AL i (psA L s2)).blk i=some (psA L s2):=(by rw [AO,if_pos rfl]))
  (have c2:=hE (σ.AL i (psA L s2)) s2 g0 h2 (by omega) b2;rw [A3] at c2;have h3:=h2.run (E);have l3:=PM.le (E) h2.wf;generalize (E).run s2=y at c2 h3 l3 ⊢;obtain ⟨x2,s3⟩:=y;simp only at c2 h3 l3 ⊢;have b3:(σ.AL i (psA L s3)).blk i=some (psA L s3):=(by rw [AO,if_pos rfl]);obtain ⟨o2,n2,u2,ns2,ks2,al2⟩:=x2;simp only [exA,Ex.A2,AD,AG] at c2 ⊢)
  (have c3:=(DJ i L n [105,110] (by decide)) (σ.AL i (psA L s3)) s3 g0 h3 (by omega) b3;rw [A3] at c3;have h4:=h3.run (PM.exp [105,110] (by decide));have l4:=PM.le (PM.exp [105,110] (by decide)) h3.wf;generalize (PM.exp [105,110] (by decide)).run s3=y at c3 h4 l4 ⊢;obtain ⟨x3,s4⟩:=y;simp only at c3 h4 l4 ⊢;have b4:(σ.AL i (psA L s4)).blk i=some (psA L s4):=(by rw [AO,if_pos rfl]))
  (have c4:=hE (σ.AL i (psA L s4)) s4 g0 h4 (by omega) b4;rw [A3] at c4;have h5:=h4.run (E);have l5:=PM.le (E) h4.wf;generalize (E).run s4=y at c4 h5 l5 ⊢;obtain ⟨x4,s5⟩:=y;simp only at c4 h5 l5 ⊢;have b5:(σ.AL i (psA L s5)).blk i=some (psA L s5):=(by rw [AO,if_pos rfl]);obtain ⟨o4,n4,u4,ns4,ks4,al4⟩:=x4;simp only [exA,Ex.A2,AD,AG] at c4 ⊢)
  (repeat' (first|refine Run.ct rfl ?_|((first|refine Run.reg mixed ?_|refine Run.AJ ?_|refine Run.A9 Hl (AM.le_refl _) ?_|(refine AI.upd c0 ?_)|(refine AI.upd c1 ?_)|(refine AI.upd c2 ?_)|(refine AI.upd c3 ?_)|(refine AI.upd c4 ?_)|refine AI.det (f0) ?_|(refine AP rfl (fun h=>?_) (fun h=>?_)<;>try (cases h;done)))<;>try simp -implicitDefEqProofs only [go_sem])|(refine ⟨fun h=>?_,fun h=>?_⟩<;>first|(cases h;done)|try simp only [h])|fail))
theorem xA (i:Nat) (L:List Tok) (n:Nat) {E:PM Ex} (hE:PC 131 [.gp i 0] i L n E exA):PC 171 [.gp i 0] i L n (iD E) alA:=by
 intro σ s0 g0 h0 l0 b0
 refine TG (by simp) ?_
 rw [BO]
 simp only [iD,run_bind,run_pure]
 (have c0:=(Sg i L n) σ s0 g0 h0 (by omega) b0;have h1:=h0.run (F3);have l1:=PM.le (F3) h0.wf;generalize (F3).run s0=y at c0 h1 l1 ⊢;obtain ⟨x0,s1⟩:=y;simp only at c0 h1 l1 ⊢;have b1:(σ.AL i (psA L s1)).blk i=some (psA L s1):=(by rw [AO,if_pos rfl]))
 (have c1:=((PL i L n bC (Sk i L n)).pc.mono (Nat.le_succ n)) (σ.AL i (psA L s1)) s1 g0 h1 (by omega) b1;rw [A3] at c1;have h2:=h1.run (I7 G2);have l2:=PM.le (I7 G2) h1.wf;generalize (I7 G2).run s1=y at c1 h2 l2 ⊢;obtain ⟨x1,s2⟩:=y;simp only at c1 h2 l2 ⊢;have b2:(σ.AL i (psA L s2)).blk i=some (psA L s2):=(by rw [AO,if_pos rfl]))
 (have c2:=(DJ i L n [45,62] (by decide)) (σ.AL i (psA L s2)) s2 g0 h2 (by omega) b2;rw [A3] at c2;have h3:=h2.run (PM.exp [45,62] (by decide));have l3:=PM.le (PM.exp [45,62] (by decide)) h2.wf;generalize (PM.exp [45,62] (by decide)).run s2=y at c2 h3 l3 ⊢;obtain ⟨x2,s3⟩:=y;simp only at c2 h3 l3 ⊢;have b3:(σ.AL i (psA L s3)).blk i=some (psA L s3):=(by rw [AO,if_pos rfl]))
 (have c3:=hE (σ.AL i (psA L s3)) s3 g0 h3 (by omega) b3;rw [A3] at c3;have h4:=h3.run (E);have l4:=PM.le (E) h3.wf;generalize (E).run s3=y at c3 h4 l4 ⊢;obtain ⟨x3,s4⟩:=y;simp only at c3 h4 l4 ⊢;have b4:(σ.AL i (psA L s4)).blk i=some (psA L s4):=(by rw [AO,if_pos rfl]);obtain ⟨o3,n3,u3,ns3,ks3,al3⟩:=x3;simp only [exA,Ex.A2,AD,AG] at c3 ⊢)
 simp only [alA,Al.A2,AD,AG]
 (repeat' (first|refine Run.ct rfl ?_|((first|refine Run.reg mixed ?_|refine Run.AJ ?_|refine Run.A9 MO (AM.le_refl _) ?_|(refine AI.upd c0 ?_)|(refine AI.upd c1 ?_)|(refine AI.upd c2 ?_)|(refine AI.upd c3 ?_)|(refine AP rfl (fun h=>?_) (fun h=>?_)<;>try (cases h;done)))<;>try simp -implicitDefEqProofs only [go_sem])|(refine ⟨fun h=>?_,fun h=>?_⟩<;>first|(cases h;done)|try simp only [h])|fail))
set_option maxHeartbeats 4000000 in
theorem j2 (i:Nat) {L:List Tok} (hN:NOk L):∀n,PC 131 [.gp i 0] i L n (CB n) exA
 |0=>fun σ s _ h1 h2 h3=>by have:=Ar.2 h1.wf.ne;omega
 |n+1=>by
  have ih:=j2 i hN n
  intro σ s0 g0 h0 l0 b0
  refine SC (by simp) ?_
  rw [BO,CB]
  simp only [H8]
  cases t1:s0.hd.text==[108,101,116] with
  |true=>
   simp only [if_true]
   (have c0:=DH h0 [108,101,116] σ b0 t1;have h1:=h0.adv (t:=[108,101,116]) (by decide) t1;have l1:=BP h0.wf;generalize s0.adv=s1 at c0 h1 l1 ⊢;have b1:(σ.AL i (psA L s1)).blk i=some (psA L s1):=by rw [AO,if_pos rfl])
   (have c1:=(yF i L n ih) (σ.AL i (psA L s1)) s1 g0 h1 (by omega) b1;rw [A3] at c1;have h2:=h1.run (eO (CB n));have l2:=PM.le (eO (CB n)) h1.wf;generalize (eO (CB n)).run s1=y at c1 h2 l2 ⊢;obtain ⟨x1,s2⟩:=y;simp only at c1 h2 l2 ⊢;have b2:(σ.AL i (psA L s2)).blk i=some (psA L s2):=(by rw [AO,if_pos rfl]);obtain ⟨o1,n1,u1,ns1,ks1,al1⟩:=x1;simp only [exA,Ex.A2,AD,AG] at c1 ⊢)
   (repeat' (first|refine Run.ct rfl ?_|((first|refine Run.reg mixed ?_|refine Run.AJ ?_|refine Run.A9 CT (AM.le_refl _) ?_|(refine AI.upd c0 ?_)|(refine AI.upd c1 ?_)|(refine AP rfl (fun h=>?_) (fun h=>?_)<;>try (cases h;done)))<;>try simp -implicitDefEqProofs only [go_sem])|(refine ⟨fun h=>?_,fun h=>?_⟩<;>first|(cases h;done)|try simp only [h])|fail))
  |false=>
  have f1:=DG h0 _ σ b0 t1
  cases t2:s0.hd.text==[105,102] with
  |true=>
   simp only [if_true,if_false,A1,run_bind,run_pure,exA,exN,Ex.A2,AD,AG]
   (have c0:=DH h0 [105,102] σ b0 t2;have h1:=h0.adv (t:=[105,102]) (by decide) t2;have l1:=BP h0.wf;generalize s0.adv=s1 at c0 h1 l1 ⊢;have b1:(σ.AL i (psA L s1)).blk i=some (psA L s1):=by rw [AO,if_pos rfl])
   (have c1:=ih (σ.AL i (psA L s1)) s1 g0 h1 (by omega) b1;rw [A3] at c1;have h2:=h1.run (CB n);have l2:=PM.le (CB n) h1.wf;generalize (CB n).run s1=y at c1 h2 l2 ⊢;obtain ⟨x1,s2⟩:=y;simp only at c1 h2 l2 ⊢;have b2:(σ.AL i (psA L s2)).blk i=some (psA L s2):=(by rw [AO,if_pos rfl]);obtain ⟨o1,n1,u1,ns1,ks1,al1⟩:=x1;simp only [exA,Ex.A2,AD,AG] at c1 ⊢)
   (have c2:=(DJ i L n [116,104,101,110] (by decide)) (σ.AL i (psA L s2)) s2 g0 h2 (by omega) b2;rw [A3] at c2;have h3:=h2.run (PM.exp [116,104,101,110] (by decide));have l3:=PM.le (PM.exp [116,104,101,110] (by decide)) h2.wf;generalize (PM.exp [116,104,101,110] (by decide)).run s2=y at c2 h3 l3 ⊢;obtain ⟨x2,s3⟩:=y;simp only at c2 h3 l3 ⊢;have b3:(σ.AL i (psA L s3)).blk i=some (psA L s3):=(by rw [AO,if_pos rfl]))
   (have c3:=ih (σ.AL i (psA L s3)) s3 g0 h3 (by omega) b3;rw [A3] at c3;have h4:=h3.run (CB n);have l4:=PM.le (CB n) h3.wf;generalize (CB n).run s3=y at c3 h4 l4 ⊢;obtain ⟨x3,s4⟩:=y;simp only at c3 h4 l4 ⊢;have b4:(σ.AL i (psA L s4)).blk i=some (psA L s4):=(by rw [AO,if_pos rfl]);obtain ⟨o3,n3,u3,ns3,ks3,al3⟩:=x3;simp only [exA,Ex.A2,AD,AG] at c3 ⊢)
   (have c4:=(DJ i L n [101,108,115,101] (by decide)) (σ.AL i (psA L s4)) s4 g0 h4 (by omega) b4;rw [A3] at c4;have h5:=h4.run (PM.exp [101,108,115,101] (by decide));have l5:=PM.le (PM.exp [101,108,115,101] (by decide)) h4.wf;generalize (PM.exp [101,108,115,101] (by decide)).run s4=y at c4 h5 l5 ⊢;obtain ⟨x4,s5⟩:=y;simp only at c4 h5 l5 ⊢;have b5:(σ.AL i (psA L s5)).blk i=some (psA L s5):=(by rw [AO,if_pos rfl]))
   (have c5:=ih (σ.AL i (psA L s5)) s5 g0 h5 (by omega) b5;rw [A3] at c5;have h6:=h5.run (CB n);have l6:=PM.le (CB n) h5.wf;generalize (CB n).run s5=y at c5 h6 l6 ⊢;obtain ⟨x5,s6⟩:=y;simp only at c5 h6 l6 ⊢;have b6:(σ.AL i (psA L s6)).blk i=some (psA L s6):=(by rw [AO,if_pos rfl]);obtain ⟨o5,n5,u5,ns5,ks5,al5⟩:=x5;simp only [exA,Ex.A2,AD,AG] at c5 ⊢)
   (repeat' (first|refine Run.ct rfl ?_|((first|refine Run.reg mixed ?_|refine Run.AJ ?_|refine Run.A9 CT (AM.le_refl _) ?_|(refine AI.upd c0 ?_)|(refine AI.upd c1 ?_)|(refine AI.upd c2 ?_)|(refine AI.upd c3 ?_)|(refine AI.upd c4 ?_)|(refine AI.upd c5 ?_)|refine AI.det (f1) ?_|(refine AP rfl (fun h=>?_) (fun h=>?_)<;>try (cases h;done)))<;>try simp -implicitDefEqProofs only [go_sem])|(refine ⟨fun h=>?_,fun h=>?_⟩<;>first|(cases h;done)|try simp only [h])|fail))
  |false=>
  have f2:=DG h0 _ σ b0 t2
  cases t3:s0.hd.text==[109,97,116,99,104] with
  |true=>
   simp only [if_true,if_false,A1,run_bind,run_pure,exA,exN,Ex.A2,AD,AG]
   (have c0:=DH h0 [109,97,116,99,104] σ b0 t3;have h1:=h0.adv (t:=[109,97,116,99,104]) (by decide) t3;have l1:=BP h0.wf;generalize s0.adv=s1 at c0 h1 l1 ⊢;have b1:(σ.AL i (psA L s1)).blk i=some (psA L s1):=by rw [AO,if_pos rfl])
   (have c1:=ih (σ.AL i (psA L s1)) s1 g0 h1 (by omega) b1;rw [A3] at c1;have h2:=h1.run (CB n);have l2:=PM.le (CB n) h1.wf;generalize (CB n).run s1=y at c1 h2 l2 ⊢;obtain ⟨x1,s2⟩:=y;simp only at c1 h2 l2 ⊢;have b2:(σ.AL i (psA L s2)).blk i=some (psA L s2):=(by rw [AO,if_pos rfl]);obtain ⟨o1,n1,u1,ns1,ks1,al1⟩:=x1;simp only [exA,Ex.A2,AD,AG] at c1 ⊢)
   (have c2:=(DJ i L n [119,105,116,104] (by decide)) (σ.AL i (psA L s2)) s2 g0 h2 (by omega) b2;rw [A3] at c2;have h3:=h2.run (PM.exp [119,105,116,104] (by decide));have l3:=PM.le (PM.exp [119,105,116,104] (by decide)) h2.wf;generalize (PM.exp [119,105,116,104] (by decide)).run s2=y at c2 h3 l3 ⊢;obtain ⟨x2,s3⟩:=y;simp only at c2 h3 l3 ⊢;have b3:(σ.AL i (psA L s3)).blk i=some (psA L s3):=(by rw [AO,if_pos rfl]))
   (have c3:=(Vs i L n xY (xA i L n ih) [124] (by decide)).pc (σ.AL i (psA L s3)) s3 g0 h3 (by omega) b3;rw [A3] at c3;have h4:=h3.run (items (iD (CB n)) [124] (by decide));have l4:=PM.le (items (iD (CB n)) [124] (by decide)) h3.wf;generalize (items (iD (CB n)) [124] (by decide)).run s3=y at c3 h4 l4 ⊢;obtain ⟨x3,s4⟩:=y;simp only at c3 h4 l4 ⊢;have b4:(σ.AL i (psA L s4)).blk i=some (psA L s4):=(by rw [AO,if_pos rfl]))
   (have c4:=(DJ i L n [101,110,100] (by decide)) (σ.AL i (psA L s4)) s4 g0 h4 (by omega) b4;rw [A3] at c4;have h5:=h4.run (PM.exp [101,110,100] (by decide));have l5:=PM.le (PM.exp [101,110,100] (by decide)) h4.wf;generalize (PM.exp [101,110,100] (by decide)).run s4=y at c4 h5 l5 ⊢;obtain ⟨x4,s5⟩:=y;simp only at c4 h5 l5 ⊢;have b5:(σ.AL i (psA L s5)).blk i=some (psA L s5):=(by rw [AO,if_pos rfl]))
   (repeat' (first|refine Run.ct rfl ?_|((first|refine Run.reg mixed ?_|refine Run.AJ ?_|refine Run.A9 CT (AM.le_refl _) ?_|(refine AI.upd c0 ?_)|(refine AI.upd c1 ?_)|(refine AI.upd c2 ?_)|(refine AI.upd c3 ?_)|(refine AI.upd c4 ?_)|refine AI.det (f1) ?_|refine AI.det (f2) ?_|(refine AP rfl (fun h=>?_) (fun h=>?_)<;>try (cases h;done)))<;>try simp -implicitDefEqProofs only [go_sem])|(refine ⟨fun h=>?_,fun h=>?_⟩<;>first|(cases h;done)|try simp only [h])|fail))
  |false=>
  have f3:=DG h0 _ σ b0 t3
  cases t4:s0.hd.text==[102,110] with
  |true=>
   simp only [if_true,if_false,A1,run_bind,run_pure,exA,exN,Ex.A2,AD,AG]
   (have c0:=DH h0 [102,110] σ b0 t4;have h1:=h0.adv (t:=[102,110]) (by decide) t4;have l1:=BP h0.wf;generalize s0.adv=s1 at c0 h1 l1 ⊢;have b1:(σ.AL i (psA L s1)).blk i=some (psA L s1):=by rw [AO,if_pos rfl])
   (have c1:=(DJ i L n [40] (by decide)) (σ.AL i (psA L s1)) s1 g0 h1 (by omega) b1;rw [A3] at c1;have h2:=h1.run (PM.exp [40] (by decide));have l2:=PM.le (PM.exp [40] (by decide)) h1.wf;generalize (PM.exp [40] (by decide)).run s1=y at c1 h2 l2 ⊢;obtain ⟨x1,s2⟩:=y;simp only at c1 h2 l2 ⊢;have b2:(σ.AL i (psA L s2)).blk i=some (psA L s2):=(by rw [AO,if_pos rfl]))
   (have c2:=(Oq i L n bD (QU i L n)).pc (σ.AL i (psA L s2)) s2 g0 h2 (by omega) b2;rw [A3] at c2;have h3:=h2.run (closed Fs);have l3:=PM.le (closed Fs) h2.wf;generalize (closed Fs).run s2=y at c2 h3 l3 ⊢;obtain ⟨x2,s3⟩:=y;simp only at c2 h3 l3 ⊢;have b3:(σ.AL i (psA L s3)).blk i=some (psA L s3):=(by rw [AO,if_pos rfl]))
   (have c3:=(DJ i L n [45,62] (by decide)) (σ.AL i (psA L s3)) s3 g0 h3 (by omega) b3;rw [A3] at c3;have h4:=h3.run (PM.exp [45,62] (by decide));have l4:=PM.le (PM.exp [45,62] (by decide)) h3.wf;generalize (PM.exp [45,62] (by decide)).run s3=y at c3 h4 l4 ⊢;obtain ⟨x3,s4⟩:=y;simp only at c3 h4 l4 ⊢;have b4:(σ.AL i (psA L s4)).blk i=some (psA L s4):=(by rw [AO,if_pos rfl]))
   (have c4:=ih (σ.AL i (psA L s4)) s4 g0 h4 (by omega) b4;rw [A3] at c4;have h5:=h4.run (CB n);have l5:=PM.le (CB n) h4.wf;generalize (CB n).run s4=y at c4 h5 l5 ⊢;obtain ⟨x4,s5⟩:=y;simp only at c4 h5 l5 ⊢;have b5:(σ.AL i (psA L s5)).blk i=some (psA L s5):=(by rw [AO,if_pos rfl]);obtain ⟨o4,n4,u4,ns4,ks4,al4⟩:=x4;simp only [exA,Ex.A2,AD,AG] at c4 ⊢)
   (repeat' (first|refine Run.ct rfl ?_|((first|refine Run.reg mixed ?_|refine Run.AJ ?_|refine Run.A9 CT (AM.le_refl _) ?_|(refine AI.upd c0 ?_)|(refine AI.upd c1 ?_)|(refine AI.upd c2 ?_)|(refine AI.upd c3 ?_)|(refine AI.upd c4 ?_)|refine AI.det (f1) ?_|refine AI.det (f2) ?_|refine AI.det (f3) ?_|(refine AP rfl (fun h=>?_) (fun h=>?_)<;>try (cases h;done)))<;>try simp -implicitDefEqProofs only [go_sem])|(refine ⟨fun h=>?_,fun h=>?_⟩<;>first|(cases h;done)|try simp only [h])|fail))
  |false=>
  have f4:=DG h0 _ σ b0 t4
  cases t5:s0.hd.text==[116,114,121] with
  |true=>
   simp only [if_true,if_false,A1,run_bind,run_pure,exA,exN,Ex.A2,AD,AG]
   (have c0:=DH h0 [116,114,121] σ b0 t5;have h1:=h0.adv (t:=[116,114,121]) (by decide) t5;have l1:=BP h0.wf;generalize s0.adv=s1 at c0 h1 l1 ⊢;have b1:(σ.AL i (psA L s1)).blk i=some (psA L s1):=by rw [AO,if_pos rfl])
   (have c1:=ih (σ.AL i (psA L s1)) s1 g0 h1 (by omega) b1;rw [A3] at c1;have h2:=h1.run (CB n);have l2:=PM.le (CB n) h1.wf;generalize (CB n).run s1=y at c1 h2 l2 ⊢;obtain ⟨x1,s2⟩:=y;simp only at c1 h2 l2 ⊢;have b2:(σ.AL i (psA L s2)).blk i=some (psA L s2):=(by rw [AO,if_pos rfl]);obtain ⟨o1,n1,u1,ns1,ks1,al1⟩:=x1;simp only [exA,Ex.A2,AD,AG] at c1 ⊢)
   (have c2:=(DJ i L n [99,97,116,99,104] (by decide)) (σ.AL i (psA L s2)) s2 g0 h2 (by omega) b2;rw [A3] at c2;have h3:=h2.run (PM.exp [99,97,116,99,104] (by decide));have l3:=PM.le (PM.exp [99,97,116,99,104] (by decide)) h2.wf;generalize (PM.exp [99,97,116,99,104] (by decide)).run s2=y at c2 h3 l3 ⊢;obtain ⟨x2,s3⟩:=y;simp only at c2 h3 l3 ⊢;have b3:(σ.AL i (psA L s3)).blk i=some (psA L s3):=(by rw [AO,if_pos rfl]))
   (have c3:=(Sk i L n) (σ.AL i (psA L s3)) s3 g0 h3 (by omega) b3;rw [A3] at c3;have h4:=h3.run (G2);have l4:=PM.le (G2) h3.wf;generalize (G2).run s3=y at c3 h4 l4 ⊢;obtain ⟨x3,s4⟩:=y;simp only at c3 h4 l4 ⊢;have b4:(σ.AL i (psA L s4)).blk i=some (psA L s4):=(by rw [AO,if_pos rfl]))
   (have c4:=(DJ i L n [45,62] (by decide)) (σ.AL i (psA L s4)) s4 g0 h4 (by omega) b4;rw [A3] at c4;have h5:=h4.run (PM.exp [45,62] (by decide));have l5:=PM.le (PM.exp [45,62] (by decide)) h4.wf;generalize (PM.exp [45,62] (by decide)).run s4=y at c4 h5 l5 ⊢;obtain ⟨x4,s5⟩:=y;simp only at c4 h5 l5 ⊢;have b5:(σ.AL i (psA L s5)).blk i=some (psA L s5):=(by rw [AO,if_pos rfl]))
   (have c5:=ih (σ.AL i (psA L s5)) s5 g0 h5 (by omega) b5;rw [A3] at c5;have h6:=h5.run (CB n);have l6:=PM.le (CB n) h5.wf;generalize (CB n).run s5=y at c5 h6 l6 ⊢;obtain ⟨x5,s6⟩:=y;simp only at c5 h6 l6 ⊢;have b6:(σ.AL i (psA L s6)).blk i=some (psA L s6):=(by rw [AO,if_pos rfl]);obtain ⟨o5,n5,u5,ns5,ks5,al5⟩:=x5;simp only [exA,Ex.A2,AD,AG] at c5 ⊢)
   (have c6:=(DJ i L n [101,110,100] (by decide)) (σ.AL i (psA L s6)) s6 g0 h6 (by omega) b6;rw [A3] at c6;have h7:=h6.run (PM.exp [101,110,100] (by decide));have l7:=PM.le (PM.exp [101,110,100] (by decide)) h6.wf;generalize (PM.exp [101,110,100] (by decide)).run s6=y at c6 h7 l7 ⊢;obtain ⟨x6,s7⟩:=y;simp only at c6 h7 l7 ⊢;have b7:(σ.AL i (psA L s7)).blk i=some (psA L s7):=(by rw [AO,if_pos rfl]))
   (repeat' (first|refine Run.ct rfl ?_|((first|refine Run.reg mixed ?_|refine Run.AJ ?_|refine Run.A9 CT (AM.le_refl _) ?_|(refine AI.upd c0 ?_)|(refine AI.upd c1 ?_)|(refine AI.upd c2 ?_)|(refine AI.upd c3 ?_)|(refine AI.upd c4 ?_)|(refine AI.upd c5 ?_)|(refine AI.upd c6 ?_)|refine AI.det (f1) ?_|refine AI.det (f2) ?_|refine AI.det (f3) ?_|refine AI.det (f4) ?_|(refine AP rfl (fun h=>?_) (fun h=>?_)<;>try (cases h;done)))<;>try simp -implicitDefEqProofs only [go_sem])|(refine ⟨fun h=>?_,fun h=>?_⟩<;>first|(cases h;done)|try simp only [h])|fail))
  |false=>
  have f5:=DG h0 _ σ b0 t5
  simp only [if_false,A1]
  (have c0:=(sW i hN n ih) σ s0 g0 h0 (by omega) b0;have h1:=h0.run (Wc (CB n));have l1:=PM.le (Wc (CB n)) h0.wf;generalize (Wc (CB n)).run s0=y at c0 h1 l1 ⊢;obtain ⟨x0,s1⟩:=y;simp only at c0 h1 l1 ⊢;have b1:(σ.AL i (psA L s1)).blk i=some (psA L s1):=(by rw [AO,if_pos rfl]);obtain ⟨o0,n0,u0,ns0,ks0,al0⟩:=x0;simp only [exA,Ex.A2,AD,AG] at c0 ⊢)
  (repeat' (first|refine Run.ct rfl ?_|((first|refine Run.reg mixed ?_|refine Run.AJ ?_|refine Run.A9 CT (AM.le_refl _) ?_|(refine AI.upd c0 ?_)|refine AI.det (f1) ?_|refine AI.det (f2) ?_|refine AI.det (f3) ?_|refine AI.det (f4) ?_|refine AI.det (f5) ?_|(refine AP rfl (fun h=>?_) (fun h=>?_)<;>try (cases h;done)))<;>try simp -implicitDefEqProofs only [go_sem])|(refine ⟨fun h=>?_,fun h=>?_⟩<;>first|(cases h;done)|try simp only [h])|fail))
end Go.Ab
