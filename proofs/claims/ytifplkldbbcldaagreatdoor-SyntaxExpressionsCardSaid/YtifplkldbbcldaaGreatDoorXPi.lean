/- The parser: applications, products, sums, comparisons. The parser: products, sums, comparisons, binders, expressions. The parser: comparisons, binders, expressions. Conditions: none. -/
import Derived.Test.YtifplkldbbcldaaGreatDoorXUi
set_option linter.unusedSimpArgs false
set_option linter.unusedVariables false
set_option maxRecDepth 4000
set_option maxHeartbeats 8000000
open List renaming all_eq_true→A7,getElem_of_mem→Ch,getElem?_eq_getElem→Az,mem_of_getElem?→Ae,map_cons→AF,map_nil→AI,length_pos_iff→Aq,length_map→AG,length_cons→AB,length_nil→AE
open Option renaming map_some→C9
open Option.some renaming injEq→AR,inj→Iw
open Bool renaming false_eq_true→AW
namespace Go.Ab
open Go.Proofs
theorem Run.uS {cx:Cx} {KK:AV→AM→Prop} {k:List CI} {F:Fm} {L L':Lm} {σ:AM} (hL:∀q cs',L' q=some cs'→∃cs,L q=some cs∧(cs'=cs∨cs'=AV.Dt cs)) (h:Run cx KK k F L' σ):Run cx KK k F L σ:=by
 intro items base g lam Pr a w0 w b cs0 hi0 hf hb hk
 refine h items base g lam Pr a w0 w b cs0 hi0 ⟨hf.tm,hf.sz,hf.df,fun q cs' hq=>?_,hf.inj,hf.npr,hf.rel⟩ hb hk
 obtain ⟨cs,hc,hp⟩:=hL q cs' hq
 obtain ⟨hok,b',vs,ty,h1,h2,h3,h4⟩:=hf.loc q cs hc
 refine ⟨?_,b',vs,ty,h1,h2,h3,?_⟩
 · rcases hp with rfl|rfl
   · exact hok
   · simp only [Ak,A7] at hok ⊢
     intro v hv
     obtain ⟨i,hi,rfl⟩:=Ch hv
     have h1:=NR cs i
     rw [Az hi] at h1
     cases hcs:cs[i]? with
     |none=>rw [hcs] at h1;cases h1
     |some c'=>rw [hcs] at h1;simp only [C9,AR] at h1;rw [h1];exact Yy (hok c' (Ae hcs))
 · rcases hp with rfl|rfl
   · exact h4
   · exact h4.plain
def exC (e:Ex):List AV:=e.enc.map AV.d
theorem Pu (o:Int) (n:Str) (u:Int) (ns:List Str) (ks:List Ex) (al:List Al):[AV.d (.int .i64 o),.d (.str n),.d (.int .i64 u),.d (.sl (ns.map B0)),.d (.sl (ks.map Ex.enc)),.d (.sl (al.map Al.enc))]=exC (.mk o n u ns ks al):=by
 rw [exC,Ex.A2];rfl
theorem YU (i:Nat) (L:List Tok) (n:Nat) {E:PM Ex} (hE:PC 131 [.gp i 0] i L n E exA):PC 208 [.gp i 0,.fn 131 [.gp i 0] []] i L n (closed E) (fun l=>.d (.sl (l.map Ex.enc))):=(UY i L n Xb hE).pc
theorem AAT {E:PM Ex} {n:Nat} {a:Ex} {s:PSt} (hc:(s.hd.text==[40])=true):(UR E (n+1) a).run s=(UR E n (exN 12 0 (a::((closed E).run s.adv).1))).run ((closed E).run s.adv).2:=if_pos hc
theorem AAS {E:PM Ex} {n:Nat} {a:Ex} {s:PSt} (hc:(s.hd.text==[40])=false):(UR E (n+1) a).run s=(a,s):=if_neg (by rw [hc];decide)
set_option maxHeartbeats 2000000 in
theorem sD (i:Nat) {L:List Tok} (hN:NOk L) (n:Nat) {E:PM Ex} (hE:PC 131 [.gp i 0] i L n E exA):PC 204 [.gp i 0] i L (n+1) (RS E) exA:=by
 intro σ s0 g0 h0 l0 b0
 refine T0 (by simp) ?_
 rw [Av]
 simp only [RS,run_bind]
 (have c0:=(yN i hN n hE) σ s0 g0 h0 (by omega) b0;have h1:=h0.run (Ih E);have l1:=PM.le (Ih E) h0.wf;generalize (Ih E).run s0=y at c0 h1 l1 ⊢;obtain ⟨x0,s1⟩:=y;simp only at c0 h1 l1 ⊢;have b1:(σ.AL i (psA L s1)).blk i=some (psA L s1):=(by rw [AO,if_pos rfl]);obtain ⟨o0,n0,u0,ns0,ks0,al0⟩:=x0;simp only [exA,Ex.A2,AF,AI] at c0 ⊢)
 (repeat' (first|refine Run.ct rfl ?_|((first|refine Run.reg mixed ?_|refine Run.AJ ?_|(refine AH.upd c0 ?_)|(refine AQ rfl (fun h=>?_) (fun h=>?_)<;>try (cases h;done)))<;>try simp -implicitDefEqProofs only [go_sem])|(refine ⟨fun h=>?_,fun h=>?_⟩<;>first|(cases h;done)|try simp only [h])|fail))
 rw [Pu]
 refine Run.Ba ?_
 have hf0:=Fb
 have hl0:=h0.suf.length_le
 have hl1:=h0.len
 refine Run.Bd (α:=PSt×Ex×Nat) (fun _=>put 0 (.gp i 0) (put 2 (.lp 2 0) (put 3 (.lp 3 0) U))) (fun y=>B8 2 [.d (.int .i64 0),.d (.str []),.d (.int .i64 0),.AY,.AY,.AY] (B8 3 (exC y.2.1) Ab.E)) (fun y=>σ.AL i (psA L y.1)) (fun y=>POk L y.1∧y.1.r.length≤n+1∧y.1.r.length≤y.2.2∧(UR E y.2.2 y.2.1).run y.1=(UR E BK (Ex.mk o0 n0 u0 ns0 ks0 al0)).run s1) (fun y=>y.1.r.length) ?_ (s1,(Ex.mk o0 n0 u0 ns0 ks0 al0),BK) ⟨h1,by simp only;omega,by simp only;omega,rfl⟩
 rintro ⟨s2,a,q⟩ ⟨p1,p2,p3,p4⟩ ih
 simp only at p1 p2 p3 p4
 have b2:(σ.AL i (psA L s2)).blk i=some (psA L s2):=(by rw [AO,if_pos rfl])
 obtain ⟨q,rfl⟩:∃m,q=m+1:=⟨q - 1,by have:=Aq.2 p1.wf.ne;omega⟩
 have hlen:=UZ (read:=E) (s:=s2.adv)
 obtain ⟨o,nm,u,ns,ks,al⟩:=a
 simp only [← Pu]
 cases hc:s2.hd.text==[40] with
 |false=>
  rw [AAS hc] at p4
  rw [← p4]
  simp only [exA,exN,Ex.A2,AF,AI]
  (repeat' (first|refine Run.ct rfl ?_|((first|refine Run.reg mixed ?_|refine Run.AJ ?_|refine Run.Ad MN (AM.le_refl _) ?_|refine AH.det (DJ p1 _ (σ.AL i (psA L s2)) b2 hc) ?_|(refine AQ rfl (fun h=>?_) (fun h=>?_)<;>try (cases h;done)))<;>try simp -implicitDefEqProofs only [go_sem])|(refine ⟨fun h=>?_,fun h=>?_⟩<;>first|(cases h;done)|try simp only [h])|fail))
 |true=>
  rw [AAT hc] at p4
  have h2:=p1
  (have c2:=DK h2 [40] (σ.AL i (psA L s2)) b2 hc;rw [A4] at c2;have h3:=h2.adv (t:=[40]) (by decide) hc;have l3:=BX h2.wf;generalize s2.adv=s3 at c2 h3 l3 p4 ⊢;have b3:(σ.AL i (psA L s3)).blk i=some (psA L s3):=by rw [AO,if_pos rfl])
  have d3:=fun tk:Nat=>YU i L n hE ((σ.AL i (psA L s3)).D7 tk) s3 g0 h3 (by omega) (by rw [GJ];exact b3)
  have c3:=YU i L n hE (σ.AL i (psA L s3)) s3 g0 h3 (by omega) b3
  rw [A4] at c3
  have h4:=h3.run (closed E)
  have l4:=PM.le (closed E) h3.wf
  have n3:=UZ (read:=E) h3.wf
  generalize (closed E).run s3=y at c3 d3 h4 l4 n3 p4
  obtain ⟨x3,s4⟩:=y
  simp only at c3 d3 h4 l4 n3 p4
  have q3:=h3.suf.length_le
  have hfin:∀v2 τ2,LS σ i L s4 44 6 ((Ex.mk o nm u ns ks al::x3).map Ex.enc) v2 τ2→Run D4 (fun v σ'=>v= .agg (((UR E BK (Ex.mk o0 n0 u0 ns0 ks0 al0)).run s1).1.enc.map AV.d)∧σ'=σ.AL i (psA L ((UR E BK (Ex.mk o0 n0 u0 ns0 ks0 al0)).run s1).2))
   [CI.again JG,CI.blk 0,CI.code ((C.reg [⟨some 16,.ldl (.t 3) (some 6),none⟩,⟨none,.st (.t 2) (.t 16) 6,none⟩] [2]).seq C.ret)]
   (put 0 (.gp i 0) (put 2 (.lp 2 0) (put 3 (.lp 3 0) U))) (B8 2 [.d (.int .i64 0),.d (.str []),.d (.int .i64 0),.AY,.AY,.AY] (B8 3 [.d (.int .i64 12),.d (.str []),.d (.int .i64 0),.AY,v2,.AY] Ab.E)) τ2:=fun v2 τ2 ho=>by
   refine Run.mL (σ':=σ.AL i (psA L s4)) (fun _=>.inl rfl) (fun _ _ h=>h) ho.le ?_
   have hpl:AV.Dt [.d (.int .i64 12),.d (.str []),.d (.int .i64 0),.AY,v2,.AY]=exC (exN 12 0 (Ex.mk o nm u ns ks al::x3)):=by
    rw [exN,← Pu]
    simp only [AV.Dt,AV.plain,ho.own.plain,AI]
   refine Run.uS (L':=B8 2 [.d (.int .i64 0),.d (.str []),.d (.int .i64 0),.AY,.AY,.AY] (B8 3 (exC (exN 12 0 (Ex.mk o nm u ns ks al::x3))) Ab.E)) (fun q' cs' hq=>?_) (ih (s4,exN 12 0 (Ex.mk o nm u ns ks al::x3),q) ⟨h4,by simp only;omega,by simp only;omega,p4⟩ (by simp only;omega))
   by_cases e2:q'=2
   · subst e2
     exact ⟨cs',hq,.inl rfl⟩
   · by_cases e3:q'=3
     · subst e3
       have:cs'=exC (exN 12 0 (Ex.mk o nm u ns ks al::x3)):=(Iw hq).symm
       exact ⟨_,rfl,.inr (by rw [this,hpl])⟩
     · simp [B8,e2,e3,Ab.E] at hq
  (repeat' (first|refine Run.ct rfl ?_|((first|refine Run.reg mixed ?_|refine Run.AJ ?_|(refine AH.upd c2 ?_)|(refine AQ rfl (fun h=>?_) (fun h=>?_)<;>try (cases h;done)))<;>try simp -implicitDefEqProofs only [go_sem])|(refine ⟨fun h=>?_,fun h=>?_⟩<;>first|(cases h;done)|try simp only [h])|fail))
  refine Run.FZ mixed ?_;simp -implicitDefEqProofs only [go_sem]
  refine ⟨?_,?_⟩
  · refine I3.own rfl (by decide) (fun tk htk=>?_);simp -implicitDefEqProofs only [go_sem]
    refine AH.upd (d3 tk) ?_;simp -implicitDefEqProofs only [go_sem]
    (apply LS.tok (LS.xW htk s4);rfl;exact (NU _ _ Ex.xP);(simp only [AG,AB,AE];omega);decide;intro v2 τ2 ho);simp -implicitDefEqProofs only [ho.own.BR,ho.own.Ay,ho.own.cells,ho.own.cell,ho.own.plain,ho.own.dv,if_true,go_sem]
    (repeat' (first|refine Run.ct rfl ?_|((first|refine Run.reg mixed ?_|refine Run.AJ ?_|(refine AQ rfl (fun h=>?_) (fun h=>?_)<;>try (cases h;done)))<;>try simp -implicitDefEqProofs only [ho.own.BR,ho.own.Ay,ho.own.cells,ho.own.cell,ho.own.plain,ho.own.dv,if_true,go_sem])|(refine ⟨fun h=>?_,fun h=>?_⟩<;>first|(cases h;done)|try simp only [h])|fail))
    exact hfin v2 τ2 (by rw [AF,Ex.A2];exact ho)
  · refine AH.upd c3 ?_;simp -implicitDefEqProofs only [go_sem]
    refine I3.own rfl (by decide) (fun tk htk=>?_);simp -implicitDefEqProofs only [go_sem]
    (apply LS.tok (LS.xV htk);rfl;exact (NU _ _ Ex.xP);(simp only [AG,AB,AE];omega);decide;intro v2 τ2 ho);simp -implicitDefEqProofs only [ho.own.BR,ho.own.Ay,ho.own.cells,ho.own.cell,ho.own.plain,ho.own.dv,if_true,go_sem]
    (repeat' (first|refine Run.ct rfl ?_|((first|refine Run.reg mixed ?_|refine Run.AJ ?_|(refine AQ rfl (fun h=>?_) (fun h=>?_)<;>try (cases h;done)))<;>try simp -implicitDefEqProofs only [ho.own.BR,ho.own.Ay,ho.own.cells,ho.own.cell,ho.own.plain,ho.own.dv,if_true,go_sem])|(refine ⟨fun h=>?_,fun h=>?_⟩<;>first|(cases h;done)|try simp only [h])|fail))
    exact hfin v2 τ2 (by rw [AF,Ex.A2];exact ho)
end Go.Ab
namespace Go.Ab
open Go.Proofs
theorem cD (lv:Nat) (t:Str):∀n k,k+n≤9→KV lv t n k≤8
 |0,k,_=>by rw [KV];omega
 |n+1,k,h=>by
  rw [KV];split
  · omega
  · exact cD lv t n (k+1) (by omega)
theorem uQ (lv:Nat) (t:Str):opR lv t≤8:=cD lv t 8 1 (by omega)
theorem cE {lv:Nat} {t:Str}:∀ {n k:Nat},KV lv t n k≠0→∃x,x≠[]∧(t==x)=true
 |0,k,h=>by rw [KV] at h;exact absurd rfl h
 |n+1,k,h=>by
  rw [KV] at h;split at h
  · rename_i hh
    refine ⟨_,?_,hh.2⟩
    unfold opT V5
    split<;>simp
  · exact cE h
theorem lG {lv:Nat} {t:Str} (h:opR lv t≠0):∃x,x≠[]∧(t==x)=true:=cE h
theorem yP {E:PM Ex} {n:Nat} {a:Ex} {s:PSt} (hc:opR 3 s.hd.text≠0):(KE E (n+1) a).run s=(KE E n (Hh ((opR 3 s.hd.text:Nat):Int) a ((RS E).run s.adv).1)).run ((RS E).run s.adv).2:=by
 rw [KE]
 simp only [H5,run_bind]
 rw [ADG] at hc ⊢
 cases h0:s.hd.text==[42] with
 |true=>simp
 |false=>
 cases h1:s.hd.text==[47] with
 |true=>simp
 |false=>
 cases h2:s.hd.text==[37] with
 |true=>simp
 |false=>
 simp [h0,h1,h2] at hc
theorem yO {E:PM Ex} {n:Nat} {a:Ex} {s:PSt} (hc:opR 3 s.hd.text=0):(KE E (n+1) a).run s=(a,s):=by
 rw [KE]
 simp only [H5,run_pure]
 rw [ADG] at hc
 cases h0:s.hd.text==[42] with
 |true=>simp [h0] at hc
 |false=>
 cases h1:s.hd.text==[47] with
 |true=>simp [h0,h1] at hc
 |false=>
 cases h2:s.hd.text==[37] with
 |true=>simp [h0,h1,h2] at hc
 |false=>
 simp
set_option maxHeartbeats 2000000 in
theorem oF (i:Nat) {L:List Tok} (hN:NOk L) (n:Nat) {E:PM Ex} (hE:PC 131 [.gp i 0] i L n E exA):PC 197 [.gp i 0] i L (n+1) (MR E) exA:=by
 intro σ s0 g0 h0 l0 b0
 refine SO (by simp) ?_
 rw [Av]
 simp only [MR,run_bind]
 (have c0:=(sD i hN n hE) σ s0 g0 h0 (by omega) b0;have h1:=h0.run (RS E);have l1:=PM.le (RS E) h0.wf;generalize (RS E).run s0=y at c0 h1 l1 ⊢;obtain ⟨x0,s1⟩:=y;simp only at c0 h1 l1 ⊢;have b1:(σ.AL i (psA L s1)).blk i=some (psA L s1):=(by rw [AO,if_pos rfl]);obtain ⟨o0,n0,u0,ns0,ks0,al0⟩:=x0;simp only [exA,Ex.A2,AF,AI] at c0 ⊢)
 have c1:=LQ h1 3 (σ.AL i (psA L s1)) b1
 rw [A4] at c1
 (repeat' (first|refine Run.ct rfl ?_|((first|refine Run.reg mixed ?_|refine Run.AJ ?_|(refine AH.upd c0 ?_)|(refine AH.upd c1 ?_)|(refine AQ rfl (fun h=>?_) (fun h=>?_)<;>try (cases h;done)))<;>try simp -implicitDefEqProofs only [go_sem])|(refine ⟨fun h=>?_,fun h=>?_⟩<;>first|(cases h;done)|try simp only [h])|fail))
 rw [Pu]
 refine Run.Ba ?_
 have hf0:=Fb
 have hl0:=h0.suf.length_le
 have hl1:=h0.len
 refine Run.Bd (α:=PSt×Ex×Nat) (fun y=>put 0 (.gp i 0) (put 2 (.lp 2 0) (put 3 (.lp 3 0) (put 4 (.d (.int .i64 ((opR 3 y.1.hd.text:Nat):Int))) U)))) (fun y=>B8 2 [.d (.int .i64 0),.d (.str []),.d (.int .i64 0),.AY,.AY,.AY] (B8 3 (exC y.2.1) Ab.E)) (fun y=>if opR 3 y.1.hd.text=0 then σ.AL i (psA L y.1) else σ.AL i (psA L y.1.adv)) (fun y=>POk L y.1∧y.1.r.length≤n+1∧y.1.r.length≤y.2.2∧(KE E y.2.2 y.2.1).run y.1=(KE E BK (Ex.mk o0 n0 u0 ns0 ks0 al0)).run s1) (fun y=>y.1.r.length) ?_ (s1,(Ex.mk o0 n0 u0 ns0 ks0 al0),BK) ⟨h1,by simp only;omega,by simp only;omega,rfl⟩
 rintro ⟨s2,a,q⟩ ⟨p1,p2,p3,p4⟩ ih
 simp only at p1 p2 p3 p4
 have b2:(σ.AL i (psA L s2)).blk i=some (psA L s2):=(by rw [AO,if_pos rfl])
 obtain ⟨q,rfl⟩:∃m,q=m+1:=⟨q - 1,by have:=Aq.2 p1.wf.ne;omega⟩
 obtain ⟨o,nm,u,ns,ks,al⟩:=a
 simp only [← Pu]
 by_cases hc:opR 3 s2.hd.text=0
 · rw [yO hc] at p4
   rw [← p4]
   have hne:(((opR 3 s2.hd.text:Nat):Int) != 0)=false:=by rw [hc];rfl
   simp only [exA,exN,Ex.A2,AF,AI,if_pos hc]
   (repeat' (first|refine Run.ct rfl ?_|((first|refine Run.reg mixed ?_|refine Run.AJ ?_|refine Run.Ad LK (AM.le_refl _) ?_|(refine AQ rfl (fun h=>?_) (fun h=>?_)<;>try (cases h;done)))<;>try simp -implicitDefEqProofs only [hne,go_sem])|(refine ⟨fun h=>?_,fun h=>?_⟩<;>first|(cases h;done)|try simp only [h])|fail))
 · rw [yP hc] at p4
   have hne:(((opR 3 s2.hd.text:Nat):Int) != 0)=true:=by simp;exact hc
   simp only [if_neg hc]
   have h3:POk L s2.adv:=by
    rcases (lG hc) with ⟨t,ht,he⟩
    exact p1.adv ht he
   have l3:=BX p1.wf
   have hop:=uQ 3 s2.hd.text
   generalize opR 3 s2.hd.text=w at p4 hne hop ⊢
   generalize s2.adv=s3 at p4 h3 l3 ⊢
   have b3:(σ.AL i (psA L s3)).blk i=some (psA L s3):=(by rw [AO,if_pos rfl])
   (have c3:=(sD i hN n hE) (σ.AL i (psA L s3)) s3 g0 h3 (by omega) b3;rw [A4] at c3;have h4:=h3.run (RS E);have l4:=PM.le (RS E) h3.wf;generalize (RS E).run s3=y at c3 h4 l4 p4 ⊢;obtain ⟨x3,s4⟩:=y;simp only at c3 h4 l4 p4 ⊢;have b4:(σ.AL i (psA L s4)).blk i=some (psA L s4):=(by rw [AO,if_pos rfl]);obtain ⟨o3,n3,u3,ns3,ks3,al3⟩:=x3;simp only [exA,Ex.A2,AF,AI] at c3 ⊢)
   have c4:=Vo (w:Int) (.mk o nm u ns ks al) (Ex.mk o3 n3 u3 ns3 ks3 al3) (σ.AL i (psA L s4))
   simp only [exA,Ex.A2,Hh,exN,AF,AI] at c4
   have c5:=LQ h4 3 (σ.AL i (psA L s4)) b4
   rw [A4] at c5
   (repeat' (first|refine Run.ct rfl ?_|((first|refine Run.reg mixed ?_|refine Run.AJ ?_|(refine AH.upd c3 ?_)|(refine AH.upd c5 ?_)|refine AH.det (c4) ?_|(refine AQ rfl (fun h=>?_) (fun h=>?_)<;>try (cases h;done)))<;>try simp -implicitDefEqProofs only [hne,go_sem])|(refine ⟨fun h=>?_,fun h=>?_⟩<;>first|(cases h;done)|try simp only [h])|fail))
   have hx:=Pu 13 [] (w:Int) [] [.mk o nm u ns ks al,(Ex.mk o3 n3 u3 ns3 ks3 al3)] []
   simp only [Ex.A2,AF,AI] at hx
   rw [hx]
   exact ih (s4,Hh (w:Int) (.mk o nm u ns ks al) (Ex.mk o3 n3 u3 ns3 ks3 al3),q) ⟨h4,by simp only;omega,by simp only;omega,p4⟩ (by simp only;omega)
theorem AB2 {E:PM Ex} {n:Nat} {a:Ex} {s:PSt} (hc:opR 2 s.hd.text≠0):(Td E (n+1) a).run s=(Td E n (Hh ((opR 2 s.hd.text:Nat):Int) a ((MR E).run s.adv).1)).run ((MR E).run s.adv).2:=by
 rw [Td]
 simp only [H5,run_bind]
 rw [ADF] at hc ⊢
 cases h0:s.hd.text==[43] with
 |true=>simp
 |false=>
 cases h1:s.hd.text==[45] with
 |true=>simp
 |false=>
 simp [h0,h1] at hc
theorem AB1 {E:PM Ex} {n:Nat} {a:Ex} {s:PSt} (hc:opR 2 s.hd.text=0):(Td E (n+1) a).run s=(a,s):=by
 rw [Td]
 simp only [H5,run_pure]
 rw [ADF] at hc
 cases h0:s.hd.text==[43] with
 |true=>simp [h0] at hc
 |false=>
 cases h1:s.hd.text==[45] with
 |true=>simp [h0,h1] at hc
 |false=>
 simp
set_option maxHeartbeats 2000000 in
theorem vZ (i:Nat) {L:List Tok} (hN:NOk L) (n:Nat) {E:PM Ex} (hE:PC 131 [.gp i 0] i L n E exA):PC 186 [.gp i 0] i L (n+1) (LR E) exA:=by
 intro σ s0 g0 h0 l0 b0
 refine T4 (by simp) ?_
 rw [Av]
 simp only [LR,run_bind]
 (have c0:=(oF i hN n hE) σ s0 g0 h0 (by omega) b0;have h1:=h0.run (MR E);have l1:=PM.le (MR E) h0.wf;generalize (MR E).run s0=y at c0 h1 l1 ⊢;obtain ⟨x0,s1⟩:=y;simp only at c0 h1 l1 ⊢;have b1:(σ.AL i (psA L s1)).blk i=some (psA L s1):=(by rw [AO,if_pos rfl]);obtain ⟨o0,n0,u0,ns0,ks0,al0⟩:=x0;simp only [exA,Ex.A2,AF,AI] at c0 ⊢)
 have c1:=LQ h1 2 (σ.AL i (psA L s1)) b1
 rw [A4] at c1
 (repeat' (first|refine Run.ct rfl ?_|((first|refine Run.reg mixed ?_|refine Run.AJ ?_|(refine AH.upd c0 ?_)|(refine AH.upd c1 ?_)|(refine AQ rfl (fun h=>?_) (fun h=>?_)<;>try (cases h;done)))<;>try simp -implicitDefEqProofs only [go_sem])|(refine ⟨fun h=>?_,fun h=>?_⟩<;>first|(cases h;done)|try simp only [h])|fail))
 rw [Pu]
 refine Run.Ba ?_
 have hf0:=Fb
 have hl0:=h0.suf.length_le
 have hl1:=h0.len
 refine Run.Bd (α:=PSt×Ex×Nat) (fun y=>put 0 (.gp i 0) (put 2 (.lp 2 0) (put 3 (.lp 3 0) (put 4 (.d (.int .i64 ((opR 2 y.1.hd.text:Nat):Int))) U)))) (fun y=>B8 2 [.d (.int .i64 0),.d (.str []),.d (.int .i64 0),.AY,.AY,.AY] (B8 3 (exC y.2.1) Ab.E)) (fun y=>if opR 2 y.1.hd.text=0 then σ.AL i (psA L y.1) else σ.AL i (psA L y.1.adv)) (fun y=>POk L y.1∧y.1.r.length≤n+1∧y.1.r.length≤y.2.2∧(Td E y.2.2 y.2.1).run y.1=(Td E BK (Ex.mk o0 n0 u0 ns0 ks0 al0)).run s1) (fun y=>y.1.r.length) ?_ (s1,(Ex.mk o0 n0 u0 ns0 ks0 al0),BK) ⟨h1,by simp only;omega,by simp only;omega,rfl⟩
 rintro ⟨s2,a,q⟩ ⟨p1,p2,p3,p4⟩ ih
 simp only at p1 p2 p3 p4
 have b2:(σ.AL i (psA L s2)).blk i=some (psA L s2):=(by rw [AO,if_pos rfl])
 obtain ⟨q,rfl⟩:∃m,q=m+1:=⟨q - 1,by have:=Aq.2 p1.wf.ne;omega⟩
 obtain ⟨o,nm,u,ns,ks,al⟩:=a
 simp only [← Pu]
 by_cases hc:opR 2 s2.hd.text=0
 · rw [AB1 hc] at p4
   rw [← p4]
   have hne:(((opR 2 s2.hd.text:Nat):Int) != 0)=false:=by rw [hc];rfl
   simp only [exA,exN,Ex.A2,AF,AI,if_pos hc]
   (repeat' (first|refine Run.ct rfl ?_|((first|refine Run.reg mixed ?_|refine Run.AJ ?_|refine Run.Ad MQ (AM.le_refl _) ?_|(refine AQ rfl (fun h=>?_) (fun h=>?_)<;>try (cases h;done)))<;>try simp -implicitDefEqProofs only [hne,go_sem])|(refine ⟨fun h=>?_,fun h=>?_⟩<;>first|(cases h;done)|try simp only [h])|fail))
 · rw [AB2 hc] at p4
   have hne:(((opR 2 s2.hd.text:Nat):Int) != 0)=true:=by simp;exact hc
   simp only [if_neg hc]
   have h3:POk L s2.adv:=by
    rcases (lG hc) with ⟨t,ht,he⟩
    exact p1.adv ht he
   have l3:=BX p1.wf
   have hop:=uQ 2 s2.hd.text
   generalize opR 2 s2.hd.text=w at p4 hne hop ⊢
   generalize s2.adv=s3 at p4 h3 l3 ⊢
   have b3:(σ.AL i (psA L s3)).blk i=some (psA L s3):=(by rw [AO,if_pos rfl])
   (have c3:=(oF i hN n hE) (σ.AL i (psA L s3)) s3 g0 h3 (by omega) b3;rw [A4] at c3;have h4:=h3.run (MR E);have l4:=PM.le (MR E) h3.wf;generalize (MR E).run s3=y at c3 h4 l4 p4 ⊢;obtain ⟨x3,s4⟩:=y;simp only at c3 h4 l4 p4 ⊢;have b4:(σ.AL i (psA L s4)).blk i=some (psA L s4):=(by rw [AO,if_pos rfl]);obtain ⟨o3,n3,u3,ns3,ks3,al3⟩:=x3;simp only [exA,Ex.A2,AF,AI] at c3 ⊢)
   have c4:=Vo (w:Int) (.mk o nm u ns ks al) (Ex.mk o3 n3 u3 ns3 ks3 al3) (σ.AL i (psA L s4))
   simp only [exA,Ex.A2,Hh,exN,AF,AI] at c4
   have c5:=LQ h4 2 (σ.AL i (psA L s4)) b4
   rw [A4] at c5
   (repeat' (first|refine Run.ct rfl ?_|((first|refine Run.reg mixed ?_|refine Run.AJ ?_|(refine AH.upd c3 ?_)|(refine AH.upd c5 ?_)|refine AH.det (c4) ?_|(refine AQ rfl (fun h=>?_) (fun h=>?_)<;>try (cases h;done)))<;>try simp -implicitDefEqProofs only [hne,go_sem])|(refine ⟨fun h=>?_,fun h=>?_⟩<;>first|(cases h;done)|try simp only [h])|fail))
   have hx:=Pu 13 [] (w:Int) [] [.mk o nm u ns ks al,(Ex.mk o3 n3 u3 ns3 ks3 al3)] []
   simp only [Ex.A2,AF,AI] at hx
   rw [hx]
   exact ih (s4,Hh (w:Int) (.mk o nm u ns ks al) (Ex.mk o3 n3 u3 ns3 ks3 al3),q) ⟨h4,by simp only;omega,by simp only;omega,p4⟩ (by simp only;omega)
end Go.Ab
namespace Go.Ab
open Go.Proofs
theorem Run.ABV {cx:Cx} {KK:AV→AM→Prop} {k:List CI} {F:Fm} {q0 q:Nat} {A cs:List AV} {σ σ':AM} (hσ:σ'.le σ) (h:Run cx KK k F (B8 q0 A (B8 q (AV.Dt cs) E)) σ'):Run cx KK k F (B8 q0 A (B8 q cs E)) σ:=by
 refine Run.mL (σ':=σ') (fun _=>.inl rfl) (fun _ _ h=>h) hσ (Run.uS (fun q' cs' hq=>?_) h)
 by_cases e2:q'=q0
 · subst e2
   have:cs'=A:=by simpa [B8] using hq.symm
   exact ⟨A,by simp [B8],.inl this⟩
 · by_cases e3:q'=q
   · subst e3
     have:cs'=AV.Dt cs:=by simpa [B8,e2] using hq.symm
     exact ⟨cs,by simp [B8,e2],.inr this⟩
   · simp [B8,e2,e3,E] at hq
theorem dM:Aw Tryz.prog 172=true:=by kernel_rfl
theorem dN:Aw Tryz.prog 126=true:=by kernel_rfl
theorem ABB:Aw Tryz.prog 171=true:=by kernel_rfl
theorem ABC:Aw Tryz.prog 129=true:=by kernel_rfl
theorem sW (E:PM Ex) (s:PSt):(Wt E).run s=if opR 1 ((LR E).run s).2.hd.text=0 then (LR E).run s else (Hh ((opR 1 ((LR E).run s).2.hd.text:Nat):Int) ((LR E).run s).1 ((LR E).run ((LR E).run s).2.adv).1,((LR E).run ((LR E).run s).2.adv).2):=by
 simp only [Wt,run_bind,H5,run_pure]
 generalize (LR E).run s=y
 obtain ⟨a,s1⟩:=y
 simp only
 rw [AD7]
 cases h0:s1.hd.text==[60] with
 |true=>simp
 |false=>
 cases h1:s1.hd.text==[60,61] with
 |true=>simp
 |false=>
 cases h2:s1.hd.text==[61,61] with
 |true=>simp
 |false=>simp
theorem wU (i:Nat) {L:List Tok} (hN:NOk L) (n:Nat) {E:PM Ex} (hE:PC 131 [.gp i 0] i L n E exA):PC 173 [.gp i 0] i L (n+1) (Wt E) exA:=by
 intro σ s0 g0 h0 l0 b0
 refine SH (by simp) ?_
 rw [Av,sW]
 (have c0:=(vZ i hN n hE) σ s0 g0 h0 (by omega) b0;have h1:=h0.run (LR E);have l1:=PM.le (LR E) h0.wf;generalize (LR E).run s0=y at c0 h1 l1 ⊢;obtain ⟨x0,s1⟩:=y;simp only at c0 h1 l1 ⊢;have b1:(σ.AL i (psA L s1)).blk i=some (psA L s1):=(by rw [AO,if_pos rfl]);obtain ⟨o0,n0,u0,ns0,ks0,al0⟩:=x0;simp only [exA,Ex.A2,AF,AI] at c0 ⊢)
 have c1:=LQ h1 1 (σ.AL i (psA L s1)) b1
 rw [A4] at c1
 by_cases hc:opR 1 s1.hd.text=0
 · have hne:(((opR 1 s1.hd.text:Nat):Int) != 0)=false:=by rw [hc];rfl
   rw [if_pos hc] at c1 ⊢
   simp only [exA,exN,Ex.A2,AF,AI]
   (repeat' (first|refine Run.ct rfl ?_|((first|refine Run.reg mixed ?_|refine Run.AJ ?_|refine Run.Ad HM (AM.le_refl _) ?_|(refine AH.upd c0 ?_)|(refine AH.upd c1 ?_)|(refine AQ rfl (fun h=>?_) (fun h=>?_)<;>try (cases h;done)))<;>try simp -implicitDefEqProofs only [hne,go_sem])|(refine ⟨fun h=>?_,fun h=>?_⟩<;>first|(cases h;done)|try simp only [h])|fail))
 · have hne:(((opR 1 s1.hd.text:Nat):Int) != 0)=true:=by simp;exact hc
   rw [if_neg hc] at c1 ⊢
   have h2:POk L s1.adv:=by
    rcases (lG hc) with ⟨t,ht,he⟩
    exact h1.adv ht he
   have l2:=BX h1.wf
   generalize opR 1 s1.hd.text=w at c1 hne ⊢
   generalize s1.adv=s2 at c1 h2 l2 ⊢
   have b2:(σ.AL i (psA L s2)).blk i=some (psA L s2):=(by rw [AO,if_pos rfl])
   (have c2:=(vZ i hN n hE) (σ.AL i (psA L s2)) s2 g0 h2 (by omega) b2;rw [A4] at c2;have h3:=h2.run (LR E);have l3:=PM.le (LR E) h2.wf;generalize (LR E).run s2=y at c2 h3 l3 ⊢;obtain ⟨x2,s3⟩:=y;simp only at c2 h3 l3 ⊢;have b3:(σ.AL i (psA L s3)).blk i=some (psA L s3):=(by rw [AO,if_pos rfl]);obtain ⟨o2,n2,u2,ns2,ks2,al2⟩:=x2;simp only [exA,Ex.A2,AF,AI] at c2 ⊢)
   have c4:=Vo (w:Int) (Ex.mk o0 n0 u0 ns0 ks0 al0) (Ex.mk o2 n2 u2 ns2 ks2 al2) (σ.AL i (psA L s3))
   simp only [exA,Ex.A2,Hh,exN,AF,AI] at c4 ⊢
   (repeat' (first|refine Run.ct rfl ?_|((first|refine Run.reg mixed ?_|refine Run.AJ ?_|refine Run.Ad HM (AM.le_refl _) ?_|(refine AH.upd c0 ?_)|(refine AH.upd c1 ?_)|(refine AH.upd c2 ?_)|refine AH.det (c4) ?_|(refine AQ rfl (fun h=>?_) (fun h=>?_)<;>try (cases h;done)))<;>try simp -implicitDefEqProofs only [hne,go_sem])|(refine ⟨fun h=>?_,fun h=>?_⟩<;>first|(cases h;done)|try simp only [h])|fail))
set_option maxHeartbeats 2000000 in
theorem ABJ (i:Nat) (L:List Tok) (n:Nat) {E:PM Ex} (hE:PC 131 [.gp i 0] i L n E exA):PC 169 [.gp i 0] i L n (hX E) exA:=by
 intro σ s0 g0 h0 l0 b0
 refine T3 (by simp) ?_
 rw [Av]
 simp only [hX,H5]
 cases t0:s0.hd.text==[40] with
 |true=>
  simp only [if_true,run_bind,run_pure,exA,exN,Ex.A2,AF,AI]
  (have c0:=DK h0 [40] σ b0 t0;have h1:=h0.adv (t:=[40]) (by decide) t0;have l1:=BX h0.wf;generalize s0.adv=s1 at c0 h1 l1 ⊢;have b1:(σ.AL i (psA L s1)).blk i=some (psA L s1):=by rw [AO,if_pos rfl])
  (have c1:=(TA i L n) (σ.AL i (psA L s1)) s1 g0 h1 (by omega) b1;rw [A4] at c1;have h2:=h1.run (G8);have l2:=PM.le (G8) h1.wf;generalize (G8).run s1=y at c1 h2 l2 ⊢;obtain ⟨x1,s2⟩:=y;simp only at c1 h2 l2 ⊢;have b2:(σ.AL i (psA L s2)).blk i=some (psA L s2):=(by rw [AO,if_pos rfl]))
  (have c2:=(DL i L n [44] (by decide)) (σ.AL i (psA L s2)) s2 g0 h2 (by omega) b2;rw [A4] at c2;have h3:=h2.run (PM.exp [44] (by decide));have l3:=PM.le (PM.exp [44] (by decide)) h2.wf;generalize (PM.exp [44] (by decide)).run s2=y at c2 h3 l3 ⊢;obtain ⟨x2,s3⟩:=y;simp only at c2 h3 l3 ⊢;have b3:(σ.AL i (psA L s3)).blk i=some (psA L s3):=(by rw [AO,if_pos rfl]))
  (have d3:=fun tk:Nat=>(H4 i L n dM (TA i L n)).pc ((σ.AL i (psA L s3)).D7 tk) s3 g0 h3 (by omega) (by rw [GJ];exact b3);have c3:=(H4 i L n dM (TA i L n)).pc (σ.AL i (psA L s3)) s3 g0 h3 (by omega) b3;rw [A4] at c3;have h4:=h3.run (listed G8);have l4:=PM.le (listed G8) h3.wf;have n3:=QP (read:=G8) h3.wf;generalize (listed G8).run s3=y at c3 d3 h4 l4 n3 ⊢;obtain ⟨x3,s4⟩:=y;simp only at c3 d3 h4 l4 n3 ⊢;have q3:=h0.suf.length_le;have q3':=h0.len)
  have b4:(σ.AL i (psA L s4)).blk i=some (psA L s4):=(by rw [AO,if_pos rfl])
  (have c4:=(DL i L n [61] (by decide)) (σ.AL i (psA L s4)) s4 g0 h4 (by omega) b4;rw [A4] at c4;have h5:=h4.run (PM.exp [61] (by decide));have l5:=PM.le (PM.exp [61] (by decide)) h4.wf;generalize (PM.exp [61] (by decide)).run s4=y at c4 h5 l5 ⊢;obtain ⟨x4,s5⟩:=y;simp only at c4 h5 l5 ⊢;have b5:(σ.AL i (psA L s5)).blk i=some (psA L s5):=(by rw [AO,if_pos rfl]))
  (have c5:=hE (σ.AL i (psA L s5)) s5 g0 h5 (by omega) b5;rw [A4] at c5;have h6:=h5.run (E);have l6:=PM.le (E) h5.wf;generalize (E).run s5=y at c5 h6 l6 ⊢;obtain ⟨x5,s6⟩:=y;simp only at c5 h6 l6 ⊢;have b6:(σ.AL i (psA L s6)).blk i=some (psA L s6):=(by rw [AO,if_pos rfl]);obtain ⟨o5,n5,u5,ns5,ks5,al5⟩:=x5;simp only [exA,Ex.A2,AF,AI] at c5 ⊢)
  (have c6:=(DL i L n [105,110] (by decide)) (σ.AL i (psA L s6)) s6 g0 h6 (by omega) b6;rw [A4] at c6;have h7:=h6.run (PM.exp [105,110] (by decide));have l7:=PM.le (PM.exp [105,110] (by decide)) h6.wf;generalize (PM.exp [105,110] (by decide)).run s6=y at c6 h7 l7 ⊢;obtain ⟨x6,s7⟩:=y;simp only at c6 h7 l7 ⊢;have b7:(σ.AL i (psA L s7)).blk i=some (psA L s7):=(by rw [AO,if_pos rfl]))
  (have c7:=hE (σ.AL i (psA L s7)) s7 g0 h7 (by omega) b7;rw [A4] at c7;have h8:=h7.run (E);have l8:=PM.le (E) h7.wf;generalize (E).run s7=y at c7 h8 l8 ⊢;obtain ⟨x7,s8⟩:=y;simp only at c7 h8 l8 ⊢;have b8:(σ.AL i (psA L s8)).blk i=some (psA L s8):=(by rw [AO,if_pos rfl]);obtain ⟨o7,n7,u7,ns7,ks7,al7⟩:=x7;simp only [exA,Ex.A2,AF,AI] at c7 ⊢)
  (repeat' (first|refine Run.ct rfl ?_|((first|refine Run.reg mixed ?_|refine Run.AJ ?_|(refine AH.upd c0 ?_)|(refine AH.upd c1 ?_)|(refine AH.upd c2 ?_)|(refine AQ rfl (fun h=>?_) (fun h=>?_)<;>try (cases h;done)))<;>try simp -implicitDefEqProofs only [go_sem])|(refine ⟨fun h=>?_,fun h=>?_⟩<;>first|(cases h;done)|try simp only [h])|fail))
  refine I3.own rfl (by decide) (fun tk htk=>?_);simp -implicitDefEqProofs only [go_sem]
  refine AH.upd (d3 tk) ?_;simp -implicitDefEqProofs only [go_sem]
  (apply LS.tok (LS.xW htk s4);rfl;exact (NU _ _ (fun _=>rfl));(simp only [AG,AB,AE];omega);decide;intro v2 τ2 ho);simp -implicitDefEqProofs only [ho.own.BR,ho.own.Ay,ho.own.cells,ho.own.cell,ho.own.plain,ho.own.dv,if_true,go_sem]
  refine Run.ABV ho.le ?_
  simp only [AV.Dt,AV.plain,ho.own.plain]
  (repeat' (first|refine Run.ct rfl ?_|((first|refine Run.reg mixed ?_|refine Run.AJ ?_|refine Run.Ad Hj (AM.le_refl _) ?_|(refine AH.upd c4 ?_)|(refine AH.upd c5 ?_)|(refine AH.upd c6 ?_)|(refine AH.upd c7 ?_)|(refine AQ rfl (fun h=>?_) (fun h=>?_)<;>try (cases h;done)))<;>try simp -implicitDefEqProofs only [go_sem])|(refine ⟨fun h=>?_,fun h=>?_⟩<;>first|(cases h;done)|try simp only [h])|fail))
  rfl
 |false=>
  have f0:=DJ h0 _ σ b0 t0
  simp only [if_false,AW,run_bind,run_pure,exA,exN,Ex.A2,AF,AI]
  (have c0:=(TA i L n) σ s0 g0 h0 (by omega) b0;have h1:=h0.run (G8);have l1:=PM.le (G8) h0.wf;generalize (G8).run s0=y at c0 h1 l1 ⊢;obtain ⟨x0,s1⟩:=y;simp only at c0 h1 l1 ⊢;have b1:(σ.AL i (psA L s1)).blk i=some (psA L s1):=(by rw [AO,if_pos rfl]))
  (have c1:=(DL i L n [61] (by decide)) (σ.AL i (psA L s1)) s1 g0 h1 (by omega) b1;rw [A4] at c1;have h2:=h1.run (PM.exp [61] (by decide));have l2:=PM.le (PM.exp [61] (by decide)) h1.wf;generalize (PM.exp [61] (by decide)).run s1=y at c1 h2 l2 ⊢;obtain ⟨x1,s2⟩:=y;simp only at c1 h2 l2 ⊢;have b2:(σ.AL i (psA L s2)).blk i=some (psA L s2):=(by rw [AO,if_pos rfl]))
  (have c2:=hE (σ.AL i (psA L s2)) s2 g0 h2 (by omega) b2;rw [A4] at c2;have h3:=h2.run (E);have l3:=PM.le (E) h2.wf;generalize (E).run s2=y at c2 h3 l3 ⊢;obtain ⟨x2,s3⟩:=y;simp only at c2 h3 l3 ⊢;have b3:(σ.AL i (psA L s3)).blk i=some (psA L s3):=(by rw [AO,if_pos rfl]);obtain ⟨o2,n2,u2,ns2,ks2,al2⟩:=x2;simp only [exA,Ex.A2,AF,AI] at c2 ⊢)
  (have c3:=(DL i L n [105,110] (by decide)) (σ.AL i (psA L s3)) s3 g0 h3 (by omega) b3;rw [A4] at c3;have h4:=h3.run (PM.exp [105,110] (by decide));have l4:=PM.le (PM.exp [105,110] (by decide)) h3.wf;generalize (PM.exp [105,110] (by decide)).run s3=y at c3 h4 l4 ⊢;obtain ⟨x3,s4⟩:=y;simp only at c3 h4 l4 ⊢;have b4:(σ.AL i (psA L s4)).blk i=some (psA L s4):=(by rw [AO,if_pos rfl]))
  (have c4:=hE (σ.AL i (psA L s4)) s4 g0 h4 (by omega) b4;rw [A4] at c4;have h5:=h4.run (E);have l5:=PM.le (E) h4.wf;generalize (E).run s4=y at c4 h5 l5 ⊢;obtain ⟨x4,s5⟩:=y;simp only at c4 h5 l5 ⊢;have b5:(σ.AL i (psA L s5)).blk i=some (psA L s5):=(by rw [AO,if_pos rfl]);obtain ⟨o4,n4,u4,ns4,ks4,al4⟩:=x4;simp only [exA,Ex.A2,AF,AI] at c4 ⊢)
  (repeat' (first|refine Run.ct rfl ?_|((first|refine Run.reg mixed ?_|refine Run.AJ ?_|refine Run.Ad Hj (AM.le_refl _) ?_|(refine AH.upd c0 ?_)|(refine AH.upd c1 ?_)|(refine AH.upd c2 ?_)|(refine AH.upd c3 ?_)|(refine AH.upd c4 ?_)|refine AH.det (f0) ?_|(refine AQ rfl (fun h=>?_) (fun h=>?_)<;>try (cases h;done)))<;>try simp -implicitDefEqProofs only [go_sem])|(refine ⟨fun h=>?_,fun h=>?_⟩<;>first|(cases h;done)|try simp only [h])|fail))
theorem AAR (i:Nat) (L:List Tok) (n:Nat) {E:PM Ex} (hE:PC 131 [.gp i 0] i L n E exA):PC 171 [.gp i 0] i L n (lH E) alA:=by
 intro σ s0 g0 h0 l0 b0
 refine TZ (by simp) ?_
 rw [Av]
 simp only [lH,run_bind,run_pure]
 (have c0:=(Ss i L n) σ s0 g0 h0 (by omega) b0;have h1:=h0.run (FY);have l1:=PM.le (FY) h0.wf;generalize (FY).run s0=y at c0 h1 l1 ⊢;obtain ⟨x0,s1⟩:=y;simp only at c0 h1 l1 ⊢;have b1:(σ.AL i (psA L s1)).blk i=some (psA L s1):=(by rw [AO,if_pos rfl]))
 (have c1:=((PK i L n dM (TA i L n)).pc.mono (Nat.le_succ n)) (σ.AL i (psA L s1)) s1 g0 h1 (by omega) b1;rw [A4] at c1;have h2:=h1.run (IZ G8);have l2:=PM.le (IZ G8) h1.wf;generalize (IZ G8).run s1=y at c1 h2 l2 ⊢;obtain ⟨x1,s2⟩:=y;simp only at c1 h2 l2 ⊢;have b2:(σ.AL i (psA L s2)).blk i=some (psA L s2):=(by rw [AO,if_pos rfl]))
 (have c2:=(DL i L n [45,62] (by decide)) (σ.AL i (psA L s2)) s2 g0 h2 (by omega) b2;rw [A4] at c2;have h3:=h2.run (PM.exp [45,62] (by decide));have l3:=PM.le (PM.exp [45,62] (by decide)) h2.wf;generalize (PM.exp [45,62] (by decide)).run s2=y at c2 h3 l3 ⊢;obtain ⟨x2,s3⟩:=y;simp only at c2 h3 l3 ⊢;have b3:(σ.AL i (psA L s3)).blk i=some (psA L s3):=(by rw [AO,if_pos rfl]))
 (have c3:=hE (σ.AL i (psA L s3)) s3 g0 h3 (by omega) b3;rw [A4] at c3;have h4:=h3.run (E);have l4:=PM.le (E) h3.wf;generalize (E).run s3=y at c3 h4 l4 ⊢;obtain ⟨x3,s4⟩:=y;simp only at c3 h4 l4 ⊢;have b4:(σ.AL i (psA L s4)).blk i=some (psA L s4):=(by rw [AO,if_pos rfl]);obtain ⟨o3,n3,u3,ns3,ks3,al3⟩:=x3;simp only [exA,Ex.A2,AF,AI] at c3 ⊢)
 simp only [alA,Al.A2,AF,AI]
 (repeat' (first|refine Run.ct rfl ?_|((first|refine Run.reg mixed ?_|refine Run.AJ ?_|refine Run.Ad MM (AM.le_refl _) ?_|(refine AH.upd c0 ?_)|(refine AH.upd c1 ?_)|(refine AH.upd c2 ?_)|(refine AH.upd c3 ?_)|(refine AQ rfl (fun h=>?_) (fun h=>?_)<;>try (cases h;done)))<;>try simp -implicitDefEqProofs only [go_sem])|(refine ⟨fun h=>?_,fun h=>?_⟩<;>first|(cases h;done)|try simp only [h])|fail))
set_option maxHeartbeats 4000000 in
theorem nF (i:Nat) {L:List Tok} (hN:NOk L):∀n,PC 131 [.gp i 0] i L n (CD n) exA
 |0=>fun σ s _ h1 h2 h3=>by have:=Aq.2 h1.wf.ne;omega
 |n+1=>by
  have ih:=nF i hN n
  intro σ s0 g0 h0 l0 b0
  refine SJ (by simp) ?_
  rw [Av,CD]
  simp only [H5]
  cases t1:s0.hd.text==[108,101,116] with
  |true=>
   simp only [if_true]
   (have c0:=DK h0 [108,101,116] σ b0 t1;have h1:=h0.adv (t:=[108,101,116]) (by decide) t1;have l1:=BX h0.wf;generalize s0.adv=s1 at c0 h1 l1 ⊢;have b1:(σ.AL i (psA L s1)).blk i=some (psA L s1):=by rw [AO,if_pos rfl])
   (have c1:=(ABJ i L n ih) (σ.AL i (psA L s1)) s1 g0 h1 (by omega) b1;rw [A4] at c1;have h2:=h1.run (hX (CD n));have l2:=PM.le (hX (CD n)) h1.wf;generalize (hX (CD n)).run s1=y at c1 h2 l2 ⊢;obtain ⟨x1,s2⟩:=y;simp only at c1 h2 l2 ⊢;have b2:(σ.AL i (psA L s2)).blk i=some (psA L s2):=(by rw [AO,if_pos rfl]);obtain ⟨o1,n1,u1,ns1,ks1,al1⟩:=x1;simp only [exA,Ex.A2,AF,AI] at c1 ⊢)
   (repeat' (first|refine Run.ct rfl ?_|((first|refine Run.reg mixed ?_|refine Run.AJ ?_|refine Run.Ad CZ (AM.le_refl _) ?_|(refine AH.upd c0 ?_)|(refine AH.upd c1 ?_)|(refine AQ rfl (fun h=>?_) (fun h=>?_)<;>try (cases h;done)))<;>try simp -implicitDefEqProofs only [go_sem])|(refine ⟨fun h=>?_,fun h=>?_⟩<;>first|(cases h;done)|try simp only [h])|fail))
  |false=>
  have f1:=DJ h0 _ σ b0 t1
  cases t2:s0.hd.text==[105,102] with
  |true=>
   simp only [if_true,if_false,AW,run_bind,run_pure,exA,exN,Ex.A2,AF,AI]
   (have c0:=DK h0 [105,102] σ b0 t2;have h1:=h0.adv (t:=[105,102]) (by decide) t2;have l1:=BX h0.wf;generalize s0.adv=s1 at c0 h1 l1 ⊢;have b1:(σ.AL i (psA L s1)).blk i=some (psA L s1):=by rw [AO,if_pos rfl])
   (have c1:=ih (σ.AL i (psA L s1)) s1 g0 h1 (by omega) b1;rw [A4] at c1;have h2:=h1.run (CD n);have l2:=PM.le (CD n) h1.wf;generalize (CD n).run s1=y at c1 h2 l2 ⊢;obtain ⟨x1,s2⟩:=y;simp only at c1 h2 l2 ⊢;have b2:(σ.AL i (psA L s2)).blk i=some (psA L s2):=(by rw [AO,if_pos rfl]);obtain ⟨o1,n1,u1,ns1,ks1,al1⟩:=x1;simp only [exA,Ex.A2,AF,AI] at c1 ⊢)
   (have c2:=(DL i L n [116,104,101,110] (by decide)) (σ.AL i (psA L s2)) s2 g0 h2 (by omega) b2;rw [A4] at c2;have h3:=h2.run (PM.exp [116,104,101,110] (by decide));have l3:=PM.le (PM.exp [116,104,101,110] (by decide)) h2.wf;generalize (PM.exp [116,104,101,110] (by decide)).run s2=y at c2 h3 l3 ⊢;obtain ⟨x2,s3⟩:=y;simp only at c2 h3 l3 ⊢;have b3:(σ.AL i (psA L s3)).blk i=some (psA L s3):=(by rw [AO,if_pos rfl]))
   (have c3:=ih (σ.AL i (psA L s3)) s3 g0 h3 (by omega) b3;rw [A4] at c3;have h4:=h3.run (CD n);have l4:=PM.le (CD n) h3.wf;generalize (CD n).run s3=y at c3 h4 l4 ⊢;obtain ⟨x3,s4⟩:=y;simp only at c3 h4 l4 ⊢;have b4:(σ.AL i (psA L s4)).blk i=some (psA L s4):=(by rw [AO,if_pos rfl]);obtain ⟨o3,n3,u3,ns3,ks3,al3⟩:=x3;simp only [exA,Ex.A2,AF,AI] at c3 ⊢)
   (have c4:=(DL i L n [101,108,115,101] (by decide)) (σ.AL i (psA L s4)) s4 g0 h4 (by omega) b4;rw [A4] at c4;have h5:=h4.run (PM.exp [101,108,115,101] (by decide));have l5:=PM.le (PM.exp [101,108,115,101] (by decide)) h4.wf;generalize (PM.exp [101,108,115,101] (by decide)).run s4=y at c4 h5 l5 ⊢;obtain ⟨x4,s5⟩:=y;simp only at c4 h5 l5 ⊢;have b5:(σ.AL i (psA L s5)).blk i=some (psA L s5):=(by rw [AO,if_pos rfl]))
   (have c5:=ih (σ.AL i (psA L s5)) s5 g0 h5 (by omega) b5;rw [A4] at c5;have h6:=h5.run (CD n);have l6:=PM.le (CD n) h5.wf;generalize (CD n).run s5=y at c5 h6 l6 ⊢;obtain ⟨x5,s6⟩:=y;simp only at c5 h6 l6 ⊢;have b6:(σ.AL i (psA L s6)).blk i=some (psA L s6):=(by rw [AO,if_pos rfl]);obtain ⟨o5,n5,u5,ns5,ks5,al5⟩:=x5;simp only [exA,Ex.A2,AF,AI] at c5 ⊢)
   (repeat' (first|refine Run.ct rfl ?_|((first|refine Run.reg mixed ?_|refine Run.AJ ?_|refine Run.Ad CZ (AM.le_refl _) ?_|(refine AH.upd c0 ?_)|(refine AH.upd c1 ?_)|(refine AH.upd c2 ?_)|(refine AH.upd c3 ?_)|(refine AH.upd c4 ?_)|(refine AH.upd c5 ?_)|refine AH.det (f1) ?_|(refine AQ rfl (fun h=>?_) (fun h=>?_)<;>try (cases h;done)))<;>try simp -implicitDefEqProofs only [go_sem])|(refine ⟨fun h=>?_,fun h=>?_⟩<;>first|(cases h;done)|try simp only [h])|fail))
  |false=>
  have f2:=DJ h0 _ σ b0 t2
  cases t3:s0.hd.text==[109,97,116,99,104] with
  |true=>
   simp only [if_true,if_false,AW,run_bind,run_pure,exA,exN,Ex.A2,AF,AI]
   (have c0:=DK h0 [109,97,116,99,104] σ b0 t3;have h1:=h0.adv (t:=[109,97,116,99,104]) (by decide) t3;have l1:=BX h0.wf;generalize s0.adv=s1 at c0 h1 l1 ⊢;have b1:(σ.AL i (psA L s1)).blk i=some (psA L s1):=by rw [AO,if_pos rfl])
   (have c1:=ih (σ.AL i (psA L s1)) s1 g0 h1 (by omega) b1;rw [A4] at c1;have h2:=h1.run (CD n);have l2:=PM.le (CD n) h1.wf;generalize (CD n).run s1=y at c1 h2 l2 ⊢;obtain ⟨x1,s2⟩:=y;simp only at c1 h2 l2 ⊢;have b2:(σ.AL i (psA L s2)).blk i=some (psA L s2):=(by rw [AO,if_pos rfl]);obtain ⟨o1,n1,u1,ns1,ks1,al1⟩:=x1;simp only [exA,Ex.A2,AF,AI] at c1 ⊢)
   (have c2:=(DL i L n [119,105,116,104] (by decide)) (σ.AL i (psA L s2)) s2 g0 h2 (by omega) b2;rw [A4] at c2;have h3:=h2.run (PM.exp [119,105,116,104] (by decide));have l3:=PM.le (PM.exp [119,105,116,104] (by decide)) h2.wf;generalize (PM.exp [119,105,116,104] (by decide)).run s2=y at c2 h3 l3 ⊢;obtain ⟨x2,s3⟩:=y;simp only at c2 h3 l3 ⊢;have b3:(σ.AL i (psA L s3)).blk i=some (psA L s3):=(by rw [AO,if_pos rfl]))
   (have c3:=(WD i L n ABB (AAR i L n ih) [124] (by decide)).pc (σ.AL i (psA L s3)) s3 g0 h3 (by omega) b3;rw [A4] at c3;have h4:=h3.run (items (lH (CD n)) [124] (by decide));have l4:=PM.le (items (lH (CD n)) [124] (by decide)) h3.wf;generalize (items (lH (CD n)) [124] (by decide)).run s3=y at c3 h4 l4 ⊢;obtain ⟨x3,s4⟩:=y;simp only at c3 h4 l4 ⊢;have b4:(σ.AL i (psA L s4)).blk i=some (psA L s4):=(by rw [AO,if_pos rfl]))
   (have c4:=(DL i L n [101,110,100] (by decide)) (σ.AL i (psA L s4)) s4 g0 h4 (by omega) b4;rw [A4] at c4;have h5:=h4.run (PM.exp [101,110,100] (by decide));have l5:=PM.le (PM.exp [101,110,100] (by decide)) h4.wf;generalize (PM.exp [101,110,100] (by decide)).run s4=y at c4 h5 l5 ⊢;obtain ⟨x4,s5⟩:=y;simp only at c4 h5 l5 ⊢;have b5:(σ.AL i (psA L s5)).blk i=some (psA L s5):=(by rw [AO,if_pos rfl]))
   (repeat' (first|refine Run.ct rfl ?_|((first|refine Run.reg mixed ?_|refine Run.AJ ?_|refine Run.Ad CZ (AM.le_refl _) ?_|(refine AH.upd c0 ?_)|(refine AH.upd c1 ?_)|(refine AH.upd c2 ?_)|(refine AH.upd c3 ?_)|(refine AH.upd c4 ?_)|refine AH.det (f1) ?_|refine AH.det (f2) ?_|(refine AQ rfl (fun h=>?_) (fun h=>?_)<;>try (cases h;done)))<;>try simp -implicitDefEqProofs only [go_sem])|(refine ⟨fun h=>?_,fun h=>?_⟩<;>first|(cases h;done)|try simp only [h])|fail))
  |false=>
  have f3:=DJ h0 _ σ b0 t3
  cases t4:s0.hd.text==[102,110] with
  |true=>
   simp only [if_true,if_false,AW,run_bind,run_pure,exA,exN,Ex.A2,AF,AI]
   (have c0:=DK h0 [102,110] σ b0 t4;have h1:=h0.adv (t:=[102,110]) (by decide) t4;have l1:=BX h0.wf;generalize s0.adv=s1 at c0 h1 l1 ⊢;have b1:(σ.AL i (psA L s1)).blk i=some (psA L s1):=by rw [AO,if_pos rfl])
   (have c1:=(DL i L n [40] (by decide)) (σ.AL i (psA L s1)) s1 g0 h1 (by omega) b1;rw [A4] at c1;have h2:=h1.run (PM.exp [40] (by decide));have l2:=PM.le (PM.exp [40] (by decide)) h1.wf;generalize (PM.exp [40] (by decide)).run s1=y at c1 h2 l2 ⊢;obtain ⟨x1,s2⟩:=y;simp only at c1 h2 l2 ⊢;have b2:(σ.AL i (psA L s2)).blk i=some (psA L s2):=(by rw [AO,if_pos rfl]))
   (have c2:=(Oo i L n dN (QR i L n)).pc (σ.AL i (psA L s2)) s2 g0 h2 (by omega) b2;rw [A4] at c2;have h3:=h2.run (closed Fj);have l3:=PM.le (closed Fj) h2.wf;generalize (closed Fj).run s2=y at c2 h3 l3 ⊢;obtain ⟨x2,s3⟩:=y;simp only at c2 h3 l3 ⊢;have b3:(σ.AL i (psA L s3)).blk i=some (psA L s3):=(by rw [AO,if_pos rfl]))
   (have c3:=(DL i L n [45,62] (by decide)) (σ.AL i (psA L s3)) s3 g0 h3 (by omega) b3;rw [A4] at c3;have h4:=h3.run (PM.exp [45,62] (by decide));have l4:=PM.le (PM.exp [45,62] (by decide)) h3.wf;generalize (PM.exp [45,62] (by decide)).run s3=y at c3 h4 l4 ⊢;obtain ⟨x3,s4⟩:=y;simp only at c3 h4 l4 ⊢;have b4:(σ.AL i (psA L s4)).blk i=some (psA L s4):=(by rw [AO,if_pos rfl]))
   (have c4:=ih (σ.AL i (psA L s4)) s4 g0 h4 (by omega) b4;rw [A4] at c4;have h5:=h4.run (CD n);have l5:=PM.le (CD n) h4.wf;generalize (CD n).run s4=y at c4 h5 l5 ⊢;obtain ⟨x4,s5⟩:=y;simp only at c4 h5 l5 ⊢;have b5:(σ.AL i (psA L s5)).blk i=some (psA L s5):=(by rw [AO,if_pos rfl]);obtain ⟨o4,n4,u4,ns4,ks4,al4⟩:=x4;simp only [exA,Ex.A2,AF,AI] at c4 ⊢)
   (repeat' (first|refine Run.ct rfl ?_|((first|refine Run.reg mixed ?_|refine Run.AJ ?_|refine Run.Ad CZ (AM.le_refl _) ?_|(refine AH.upd c0 ?_)|(refine AH.upd c1 ?_)|(refine AH.upd c2 ?_)|(refine AH.upd c3 ?_)|(refine AH.upd c4 ?_)|refine AH.det (f1) ?_|refine AH.det (f2) ?_|refine AH.det (f3) ?_|(refine AQ rfl (fun h=>?_) (fun h=>?_)<;>try (cases h;done)))<;>try simp -implicitDefEqProofs only [go_sem])|(refine ⟨fun h=>?_,fun h=>?_⟩<;>first|(cases h;done)|try simp only [h])|fail))
  |false=>
  have f4:=DJ h0 _ σ b0 t4
  cases t5:s0.hd.text==[116,114,121] with
  |true=>
   simp only [if_true,if_false,AW,run_bind,run_pure,exA,exN,Ex.A2,AF,AI]
   (have c0:=DK h0 [116,114,121] σ b0 t5;have h1:=h0.adv (t:=[116,114,121]) (by decide) t5;have l1:=BX h0.wf;generalize s0.adv=s1 at c0 h1 l1 ⊢;have b1:(σ.AL i (psA L s1)).blk i=some (psA L s1):=by rw [AO,if_pos rfl])
   (have c1:=ih (σ.AL i (psA L s1)) s1 g0 h1 (by omega) b1;rw [A4] at c1;have h2:=h1.run (CD n);have l2:=PM.le (CD n) h1.wf;generalize (CD n).run s1=y at c1 h2 l2 ⊢;obtain ⟨x1,s2⟩:=y;simp only at c1 h2 l2 ⊢;have b2:(σ.AL i (psA L s2)).blk i=some (psA L s2):=(by rw [AO,if_pos rfl]);obtain ⟨o1,n1,u1,ns1,ks1,al1⟩:=x1;simp only [exA,Ex.A2,AF,AI] at c1 ⊢)
   (have c2:=(DL i L n [99,97,116,99,104] (by decide)) (σ.AL i (psA L s2)) s2 g0 h2 (by omega) b2;rw [A4] at c2;have h3:=h2.run (PM.exp [99,97,116,99,104] (by decide));have l3:=PM.le (PM.exp [99,97,116,99,104] (by decide)) h2.wf;generalize (PM.exp [99,97,116,99,104] (by decide)).run s2=y at c2 h3 l3 ⊢;obtain ⟨x2,s3⟩:=y;simp only at c2 h3 l3 ⊢;have b3:(σ.AL i (psA L s3)).blk i=some (psA L s3):=(by rw [AO,if_pos rfl]))
   (have c3:=(TA i L n) (σ.AL i (psA L s3)) s3 g0 h3 (by omega) b3;rw [A4] at c3;have h4:=h3.run (G8);have l4:=PM.le (G8) h3.wf;generalize (G8).run s3=y at c3 h4 l4 ⊢;obtain ⟨x3,s4⟩:=y;simp only at c3 h4 l4 ⊢;have b4:(σ.AL i (psA L s4)).blk i=some (psA L s4):=(by rw [AO,if_pos rfl]))
   (have c4:=(DL i L n [45,62] (by decide)) (σ.AL i (psA L s4)) s4 g0 h4 (by omega) b4;rw [A4] at c4;have h5:=h4.run (PM.exp [45,62] (by decide));have l5:=PM.le (PM.exp [45,62] (by decide)) h4.wf;generalize (PM.exp [45,62] (by decide)).run s4=y at c4 h5 l5 ⊢;obtain ⟨x4,s5⟩:=y;simp only at c4 h5 l5 ⊢;have b5:(σ.AL i (psA L s5)).blk i=some (psA L s5):=(by rw [AO,if_pos rfl]))
   (have c5:=ih (σ.AL i (psA L s5)) s5 g0 h5 (by omega) b5;rw [A4] at c5;have h6:=h5.run (CD n);have l6:=PM.le (CD n) h5.wf;generalize (CD n).run s5=y at c5 h6 l6 ⊢;obtain ⟨x5,s6⟩:=y;simp only at c5 h6 l6 ⊢;have b6:(σ.AL i (psA L s6)).blk i=some (psA L s6):=(by rw [AO,if_pos rfl]);obtain ⟨o5,n5,u5,ns5,ks5,al5⟩:=x5;simp only [exA,Ex.A2,AF,AI] at c5 ⊢)
   (have c6:=(DL i L n [101,110,100] (by decide)) (σ.AL i (psA L s6)) s6 g0 h6 (by omega) b6;rw [A4] at c6;have h7:=h6.run (PM.exp [101,110,100] (by decide));have l7:=PM.le (PM.exp [101,110,100] (by decide)) h6.wf;generalize (PM.exp [101,110,100] (by decide)).run s6=y at c6 h7 l7 ⊢;obtain ⟨x6,s7⟩:=y;simp only at c6 h7 l7 ⊢;have b7:(σ.AL i (psA L s7)).blk i=some (psA L s7):=(by rw [AO,if_pos rfl]))
   (repeat' (first|refine Run.ct rfl ?_|((first|refine Run.reg mixed ?_|refine Run.AJ ?_|refine Run.Ad CZ (AM.le_refl _) ?_|(refine AH.upd c0 ?_)|(refine AH.upd c1 ?_)|(refine AH.upd c2 ?_)|(refine AH.upd c3 ?_)|(refine AH.upd c4 ?_)|(refine AH.upd c5 ?_)|(refine AH.upd c6 ?_)|refine AH.det (f1) ?_|refine AH.det (f2) ?_|refine AH.det (f3) ?_|refine AH.det (f4) ?_|(refine AQ rfl (fun h=>?_) (fun h=>?_)<;>try (cases h;done)))<;>try simp -implicitDefEqProofs only [go_sem])|(refine ⟨fun h=>?_,fun h=>?_⟩<;>first|(cases h;done)|try simp only [h])|fail))
  |false=>
  have f5:=DJ h0 _ σ b0 t5
  simp only [if_false,AW]
  (have c0:=(wU i hN n ih) σ s0 g0 h0 (by omega) b0;have h1:=h0.run (Wt (CD n));have l1:=PM.le (Wt (CD n)) h0.wf;generalize (Wt (CD n)).run s0=y at c0 h1 l1 ⊢;obtain ⟨x0,s1⟩:=y;simp only at c0 h1 l1 ⊢;have b1:(σ.AL i (psA L s1)).blk i=some (psA L s1):=(by rw [AO,if_pos rfl]);obtain ⟨o0,n0,u0,ns0,ks0,al0⟩:=x0;simp only [exA,Ex.A2,AF,AI] at c0 ⊢)
  (repeat' (first|refine Run.ct rfl ?_|((first|refine Run.reg mixed ?_|refine Run.AJ ?_|refine Run.Ad CZ (AM.le_refl _) ?_|(refine AH.upd c0 ?_)|refine AH.det (f1) ?_|refine AH.det (f2) ?_|refine AH.det (f3) ?_|refine AH.det (f4) ?_|refine AH.det (f5) ?_|(refine AQ rfl (fun h=>?_) (fun h=>?_)<;>try (cases h;done)))<;>try simp -implicitDefEqProofs only [go_sem])|(refine ⟨fun h=>?_,fun h=>?_⟩<;>first|(cases h;done)|try simp only [h])|fail))
end Go.Ab
