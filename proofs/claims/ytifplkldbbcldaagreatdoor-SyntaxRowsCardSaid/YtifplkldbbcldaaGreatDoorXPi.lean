/- The parser: applications, products, sums, comparisons. The parser: products, sums, comparisons, binders, expressions. The parser: comparisons, binders, expressions. Conditions: none. -/
import Derived.Test.YtifplkldbbcldaaGreatDoorXUi
set_option linter.unusedSimpArgs false
set_option linter.unusedVariables false
set_option maxRecDepth 4000
set_option maxHeartbeats 8000000
open List renaming all_eq_true→A5,getElem_of_mem→Ch,getElem?_eq_getElem→As,mem_of_getElem?→Ae,map_cons→AF,map_nil→AI,length_pos_iff→An,length_map→AE,length_cons→AD,length_nil→AG
open Option renaming map_some→Ca
open Option.some renaming injEq→AP,inj→Gj
open Bool renaming false_eq_true→AU
namespace Go.Ab
open Go.Proofs
theorem Run.rO {cx:Cx} {KK:AV→AN→Prop} {k:List CI} {F:Fm} {L L':Lm} {σ:AN} (hL:∀q cs',L' q=some cs'→∃cs,L q=some cs∧(cs'=cs∨cs'=AV.Ef cs)) (h:Run cx KK k F L' σ):Run cx KK k F L σ:=by
 intro items base g lam Pr a w0 w b cs0 hi0 hf hb hk
 refine h items base g lam Pr a w0 w b cs0 hi0 ⟨hf.tm,hf.sz,hf.df,fun q cs' hq=>?_,hf.inj,hf.npr,hf.rel⟩ hb hk
 obtain ⟨cs,hc,hp⟩:=hL q cs' hq
 obtain ⟨hok,b',vs,ty,h1,h2,h3,h4⟩:=hf.loc q cs hc
 refine ⟨?_,b',vs,ty,h1,h2,h3,?_⟩
 · rcases hp with rfl|rfl
   · exact hok
   · simp only [Ah,A5] at hok ⊢
     intro v hv
     obtain ⟨i,hi,rfl⟩:=Ch hv
     have h1:=Mw cs i
     rw [As hi] at h1
     cases hcs:cs[i]? with
     |none=>rw [hcs] at h1;cases h1
     |some c'=>rw [hcs] at h1;simp only [Ca,AP] at h1;rw [h1];exact YD (hok c' (Ae hcs))
 · rcases hp with rfl|rfl
   · exact h4
   · exact h4.plain
def exC (e:Ex):List AV:=e.enc.map AV.d
theorem PZ (o:Int) (n:Str) (u:Int) (ns:List Str) (ks:List Ex) (al:List Al):[AV.d (.int .i64 o),.d (.str n),.d (.int .i64 u),.d (.sl (ns.map D3)),.d (.sl (ks.map Ex.enc)),.d (.sl (al.map Al.enc))]=exC (.mk o n u ns ks al):=by
 rw [exC,Ex.A0];rfl
theorem X7 (i:Nat) (L:List Tok) (n:Nat) {E:PM Ex} (hE:PC 131 [.gp i 0] i L n E exA):PC 208 [.gp i 0,.fn 131 [.gp i 0] []] i L n (closed E) (fun l=>.d (.sl (l.map Ex.enc))):=(To i L n Ws hE).pc
theorem yC {E:PM Ex} {n:Nat} {a:Ex} {s:PSt} (hc:(s.hd.text==[40])=true):(Ti E (n+1) a).run s=(Ti E n (exN 12 0 (a::((closed E).run s.adv).1))).run ((closed E).run s.adv).2:=if_pos hc
theorem yB {E:PM Ex} {n:Nat} {a:Ex} {s:PSt} (hc:(s.hd.text==[40])=false):(Ti E (n+1) a).run s=(a,s):=if_neg (by rw [hc];decide)
set_option maxHeartbeats 2000000 in
theorem o6 (i:Nat) {L:List Tok} (hN:NOk L) (n:Nat) {E:PM Ex} (hE:PC 131 [.gp i 0] i L n E exA):PC 204 [.gp i 0] i L (n+1) (Qp E) exA:=by
 intro σ s0 g0 h0 l0 b0
 refine Sq (by simp) ?_
 rw [BE]
 simp only [Qp,run_bind]
 (have c0:=(vU i hN n hE) σ s0 g0 h0 (by omega) b0;have h1:=h0.run (I6 E);have l1:=PM.le (I6 E) h0.wf;generalize (I6 E).run s0=y at c0 h1 l1 ⊢;obtain ⟨x0,s1⟩:=y;simp only at c0 h1 l1 ⊢;have b1:(σ.AM i (psA L s1)).blk i=some (psA L s1):=(by rw [AO,if_pos rfl]);obtain ⟨o0,n0,u0,ns0,ks0,al0⟩:=x0;simp only [exA,Ex.A0,AF,AI] at c0 ⊢)
 (repeat' (first|refine Run.ct rfl ?_|((first|refine Run.reg mixed ?_|refine Run.AJ ?_|(refine AH.upd c0 ?_)|(refine AR rfl (fun h=>?_) (fun h=>?_)<;>try (cases h;done)))<;>try simp -implicitDefEqProofs only [go_sem])|(refine ⟨fun h=>?_,fun h=>?_⟩<;>first|(cases h;done)|try simp only [h])|fail))
 rw [PZ]
 refine Run.Be ?_
 have hf0:=FL
 have hl0:=h0.suf.length_le
 have hl1:=h0.len
 refine Run.Bn (α:=PSt×Ex×Nat) (fun _=>put 0 (.gp i 0) (put 2 (.lp 2 0) (put 3 (.lp 3 0) U))) (fun y=>B0 2 [.d (.int .i64 0),.d (.str []),.d (.int .i64 0),.AX,.AX,.AX] (B0 3 (exC y.2.1) Ab.E)) (fun y=>σ.AM i (psA L y.1)) (fun y=>POk L y.1∧y.1.r.length≤n+1∧y.1.r.length≤y.2.2∧(Ti E y.2.2 y.2.1).run y.1=(Ti E BC (Ex.mk o0 n0 u0 ns0 ks0 al0)).run s1) (fun y=>y.1.r.length) ?_ (s1,(Ex.mk o0 n0 u0 ns0 ks0 al0),BC) ⟨h1,by simp only;omega,by simp only;omega,rfl⟩
 rintro ⟨s2,a,q⟩ ⟨p1,p2,p3,p4⟩ ih
 simp only at p1 p2 p3 p4
 have b2:(σ.AM i (psA L s2)).blk i=some (psA L s2):=(by rw [AO,if_pos rfl])
 obtain ⟨q,rfl⟩:∃m,q=m+1:=⟨q - 1,by have:=An.2 p1.wf.ne;omega⟩
 have hlen:=Tp (read:=E) (s:=s2.adv)
 obtain ⟨o,nm,u,ns,ks,al⟩:=a
 simp only [← PZ]
 cases hc:s2.hd.text==[40] with
 |false=>
  rw [yB hc] at p4
  rw [← p4]
  simp only [exA,exN,Ex.A0,AF,AI]
  (repeat' (first|refine Run.ct rfl ?_|((first|refine Run.reg mixed ?_|refine Run.AJ ?_|refine Run.A9 Lr (AN.le_refl _) ?_|refine AH.det (DF p1 _ (σ.AM i (psA L s2)) b2 hc) ?_|(refine AR rfl (fun h=>?_) (fun h=>?_)<;>try (cases h;done)))<;>try simp -implicitDefEqProofs only [go_sem])|(refine ⟨fun h=>?_,fun h=>?_⟩<;>first|(cases h;done)|try simp only [h])|fail))
 |true=>
  rw [yC hc] at p4
  have h2:=p1
  (have c2:=DG h2 [40] (σ.AM i (psA L s2)) b2 hc;rw [A2] at c2;have h3:=h2.adv (t:=[40]) (by decide) hc;have l3:=BR h2.wf;generalize s2.adv=s3 at c2 h3 l3 p4 ⊢;have b3:(σ.AM i (psA L s3)).blk i=some (psA L s3):=by rw [AO,if_pos rfl])
  have d3:=fun tk:Nat=>X7 i L n hE ((σ.AM i (psA L s3)).BW tk) s3 g0 h3 (by omega) (by rw [Fx];exact b3)
  have c3:=X7 i L n hE (σ.AM i (psA L s3)) s3 g0 h3 (by omega) b3
  rw [A2] at c3
  have h4:=h3.run (closed E)
  have l4:=PM.le (closed E) h3.wf
  have n3:=Tp (read:=E) h3.wf
  generalize (closed E).run s3=y at c3 d3 h4 l4 n3 p4
  obtain ⟨x3,s4⟩:=y
  simp only at c3 d3 h4 l4 n3 p4
  have q3:=h3.suf.length_le
  have hfin:∀v2 τ2,LS σ i L s4 44 6 ((Ex.mk o nm u ns ks al::x3).map Ex.enc) v2 τ2→Run D0 (fun v σ'=>v= .agg (((Ti E BC (Ex.mk o0 n0 u0 ns0 ks0 al0)).run s1).1.enc.map AV.d)∧σ'=σ.AM i (psA L ((Ti E BC (Ex.mk o0 n0 u0 ns0 ks0 al0)).run s1).2))
   [CI.again Iy,CI.blk 0,CI.code ((C.reg [⟨some 16,.ldl (.t 3) (some 6),none⟩,⟨none,.st (.t 2) (.t 16) 6,none⟩] [2]).seq C.ret)]
   (put 0 (.gp i 0) (put 2 (.lp 2 0) (put 3 (.lp 3 0) U))) (B0 2 [.d (.int .i64 0),.d (.str []),.d (.int .i64 0),.AX,.AX,.AX] (B0 3 [.d (.int .i64 12),.d (.str []),.d (.int .i64 0),.AX,v2,.AX] Ab.E)) τ2:=fun v2 τ2 ho=>by
   refine Run.jT (σ':=σ.AM i (psA L s4)) (fun _=>.inl rfl) (fun _ _ h=>h) ho.le ?_
   have hpl:AV.Ef [.d (.int .i64 12),.d (.str []),.d (.int .i64 0),.AX,v2,.AX]=exC (exN 12 0 (Ex.mk o nm u ns ks al::x3)):=by
    rw [exN,← PZ]
    simp only [AV.Ef,AV.plain,ho.own.plain,AI]
   refine Run.rO (L':=B0 2 [.d (.int .i64 0),.d (.str []),.d (.int .i64 0),.AX,.AX,.AX] (B0 3 (exC (exN 12 0 (Ex.mk o nm u ns ks al::x3))) Ab.E)) (fun q' cs' hq=>?_) (ih (s4,exN 12 0 (Ex.mk o nm u ns ks al::x3),q) ⟨h4,by simp only;omega,by simp only;omega,p4⟩ (by simp only;omega))
   by_cases e2:q'=2
   · subst e2
     exact ⟨cs',hq,.inl rfl⟩
   · by_cases e3:q'=3
     · subst e3
       have:cs'=exC (exN 12 0 (Ex.mk o nm u ns ks al::x3)):=(Gj hq).symm
       exact ⟨_,rfl,.inr (by rw [this,hpl])⟩
     · simp [B0,e2,e3,Ab.E] at hq
  (repeat' (first|refine Run.ct rfl ?_|((first|refine Run.reg mixed ?_|refine Run.AJ ?_|(refine AH.upd c2 ?_)|(refine AR rfl (fun h=>?_) (fun h=>?_)<;>try (cases h;done)))<;>try simp -implicitDefEqProofs only [go_sem])|(refine ⟨fun h=>?_,fun h=>?_⟩<;>first|(cases h;done)|try simp only [h])|fail))
  refine Run.SD mixed ?_;simp -implicitDefEqProofs only [go_sem]
  refine ⟨?_,?_⟩
  · refine IT.own rfl (by decide) (fun tk htk=>?_);simp -implicitDefEqProofs only [go_sem]
    refine AH.upd (d3 tk) ?_;simp -implicitDefEqProofs only [go_sem]
    (apply LS.tok (LS.uX htk s4);rfl;exact (Mz _ _ Ex.uQ);(simp only [AE,AD,AG];omega);decide;intro v2 τ2 ho);simp -implicitDefEqProofs only [ho.own.BT,ho.own.At,ho.own.cells,ho.own.cell,ho.own.plain,ho.own.dv,if_true,go_sem]
    (repeat' (first|refine Run.ct rfl ?_|((first|refine Run.reg mixed ?_|refine Run.AJ ?_|(refine AR rfl (fun h=>?_) (fun h=>?_)<;>try (cases h;done)))<;>try simp -implicitDefEqProofs only [ho.own.BT,ho.own.At,ho.own.cells,ho.own.cell,ho.own.plain,ho.own.dv,if_true,go_sem])|(refine ⟨fun h=>?_,fun h=>?_⟩<;>first|(cases h;done)|try simp only [h])|fail))
    exact hfin v2 τ2 (by rw [AF,Ex.A0];exact ho)
  · refine AH.upd c3 ?_;simp -implicitDefEqProofs only [go_sem]
    refine IT.own rfl (by decide) (fun tk htk=>?_);simp -implicitDefEqProofs only [go_sem]
    (apply LS.tok (LS.uW htk);rfl;exact (Mz _ _ Ex.uQ);(simp only [AE,AD,AG];omega);decide;intro v2 τ2 ho);simp -implicitDefEqProofs only [ho.own.BT,ho.own.At,ho.own.cells,ho.own.cell,ho.own.plain,ho.own.dv,if_true,go_sem]
    (repeat' (first|refine Run.ct rfl ?_|((first|refine Run.reg mixed ?_|refine Run.AJ ?_|(refine AR rfl (fun h=>?_) (fun h=>?_)<;>try (cases h;done)))<;>try simp -implicitDefEqProofs only [ho.own.BT,ho.own.At,ho.own.cells,ho.own.cell,ho.own.plain,ho.own.dv,if_true,go_sem])|(refine ⟨fun h=>?_,fun h=>?_⟩<;>first|(cases h;done)|try simp only [h])|fail))
    exact hfin v2 τ2 (by rw [AF,Ex.A0];exact ho)
end Go.Ab
namespace Go.Ab
open Go.Proofs
theorem Zr (lv:Nat) (t:Str):∀n k,k+n≤9→KI lv t n k≤8
 |0,k,_=>by rw [KI];omega
 |n+1,k,h=>by
  rw [KI];split
  · omega
  · exact Zr lv t n (k+1) (by omega)
theorem rL (lv:Nat) (t:Str):opR lv t≤8:=Zr lv t 8 1 (by omega)
theorem Zs {lv:Nat} {t:Str}:∀ {n k:Nat},KI lv t n k≠0→∃x,x≠[]∧(t==x)=true
 |0,k,h=>by rw [KI] at h;exact absurd rfl h
 |n+1,k,h=>by
  rw [KI] at h;split at h
  · rename_i hh
    refine ⟨_,?_,hh.2⟩
    unfold opT Us
    split<;>simp
  · exact Zs h
theorem iM {lv:Nat} {t:Str} (h:opR lv t≠0):∃x,x≠[]∧(t==x)=true:=Zs h
theorem vW {E:PM Ex} {n:Nat} {a:Ex} {s:PSt} (hc:opR 3 s.hd.text≠0):(Jv E (n+1) a).run s=(Jv E n (Ha ((opR 3 s.hd.text:Nat):Int) a ((Qp E).run s.adv).1)).run ((Qp E).run s.adv).2:=by
 rw [Jv]
 simp only [HY,run_bind]
 rw [AA8] at hc ⊢
 cases h0:s.hd.text==[42] with
 |true=>simp
 |false=>
 cases h1:s.hd.text==[47] with
 |true=>simp
 |false=>
 cases h2:s.hd.text==[37] with
 |true=>simp
 |false=>
 simp [h0,h1,h2] at hc
theorem vV {E:PM Ex} {n:Nat} {a:Ex} {s:PSt} (hc:opR 3 s.hd.text=0):(Jv E (n+1) a).run s=(a,s):=by
 rw [Jv]
 simp only [HY,run_pure]
 rw [AA8] at hc
 cases h0:s.hd.text==[42] with
 |true=>simp [h0] at hc
 |false=>
 cases h1:s.hd.text==[47] with
 |true=>simp [h0,h1] at hc
 |false=>
 cases h2:s.hd.text==[37] with
 |true=>simp [h0,h1,h2] at hc
 |false=>
 simp
set_option maxHeartbeats 2000000 in
theorem k8 (i:Nat) {L:List Tok} (hN:NOk L) (n:Nat) {E:PM Ex} (hE:PC 131 [.gp i 0] i L n E exA):PC 197 [.gp i 0] i L (n+1) (Lw E) exA:=by
 intro σ s0 g0 h0 l0 b0
 refine Rj (by simp) ?_
 rw [BE]
 simp only [Lw,run_bind]
 (have c0:=(o6 i hN n hE) σ s0 g0 h0 (by omega) b0;have h1:=h0.run (Qp E);have l1:=PM.le (Qp E) h0.wf;generalize (Qp E).run s0=y at c0 h1 l1 ⊢;obtain ⟨x0,s1⟩:=y;simp only at c0 h1 l1 ⊢;have b1:(σ.AM i (psA L s1)).blk i=some (psA L s1):=(by rw [AO,if_pos rfl]);obtain ⟨o0,n0,u0,ns0,ks0,al0⟩:=x0;simp only [exA,Ex.A0,AF,AI] at c0 ⊢)
 have c1:=LD h1 3 (σ.AM i (psA L s1)) b1
 rw [A2] at c1
 (repeat' (first|refine Run.ct rfl ?_|((first|refine Run.reg mixed ?_|refine Run.AJ ?_|(refine AH.upd c0 ?_)|(refine AH.upd c1 ?_)|(refine AR rfl (fun h=>?_) (fun h=>?_)<;>try (cases h;done)))<;>try simp -implicitDefEqProofs only [go_sem])|(refine ⟨fun h=>?_,fun h=>?_⟩<;>first|(cases h;done)|try simp only [h])|fail))
 rw [PZ]
 refine Run.Be ?_
 have hf0:=FL
 have hl0:=h0.suf.length_le
 have hl1:=h0.len
 refine Run.Bn (α:=PSt×Ex×Nat) (fun y=>put 0 (.gp i 0) (put 2 (.lp 2 0) (put 3 (.lp 3 0) (put 4 (.d (.int .i64 ((opR 3 y.1.hd.text:Nat):Int))) U)))) (fun y=>B0 2 [.d (.int .i64 0),.d (.str []),.d (.int .i64 0),.AX,.AX,.AX] (B0 3 (exC y.2.1) Ab.E)) (fun y=>if opR 3 y.1.hd.text=0 then σ.AM i (psA L y.1) else σ.AM i (psA L y.1.adv)) (fun y=>POk L y.1∧y.1.r.length≤n+1∧y.1.r.length≤y.2.2∧(Jv E y.2.2 y.2.1).run y.1=(Jv E BC (Ex.mk o0 n0 u0 ns0 ks0 al0)).run s1) (fun y=>y.1.r.length) ?_ (s1,(Ex.mk o0 n0 u0 ns0 ks0 al0),BC) ⟨h1,by simp only;omega,by simp only;omega,rfl⟩
 rintro ⟨s2,a,q⟩ ⟨p1,p2,p3,p4⟩ ih
 simp only at p1 p2 p3 p4
 have b2:(σ.AM i (psA L s2)).blk i=some (psA L s2):=(by rw [AO,if_pos rfl])
 obtain ⟨q,rfl⟩:∃m,q=m+1:=⟨q - 1,by have:=An.2 p1.wf.ne;omega⟩
 obtain ⟨o,nm,u,ns,ks,al⟩:=a
 simp only [← PZ]
 by_cases hc:opR 3 s2.hd.text=0
 · rw [vV hc] at p4
   rw [← p4]
   have hne:(((opR 3 s2.hd.text:Nat):Int) != 0)=false:=by rw [hc];rfl
   simp only [exA,exN,Ex.A0,AF,AI,if_pos hc]
   (repeat' (first|refine Run.ct rfl ?_|((first|refine Run.reg mixed ?_|refine Run.AJ ?_|refine Run.A9 Kw (AN.le_refl _) ?_|(refine AR rfl (fun h=>?_) (fun h=>?_)<;>try (cases h;done)))<;>try simp -implicitDefEqProofs only [hne,go_sem])|(refine ⟨fun h=>?_,fun h=>?_⟩<;>first|(cases h;done)|try simp only [h])|fail))
 · rw [vW hc] at p4
   have hne:(((opR 3 s2.hd.text:Nat):Int) != 0)=true:=by simp;exact hc
   simp only [if_neg hc]
   have h3:POk L s2.adv:=by
    rcases (iM hc) with ⟨t,ht,he⟩
    exact p1.adv ht he
   have l3:=BR p1.wf
   have hop:=rL 3 s2.hd.text
   generalize opR 3 s2.hd.text=w at p4 hne hop ⊢
   generalize s2.adv=s3 at p4 h3 l3 ⊢
   have b3:(σ.AM i (psA L s3)).blk i=some (psA L s3):=(by rw [AO,if_pos rfl])
   (have c3:=(o6 i hN n hE) (σ.AM i (psA L s3)) s3 g0 h3 (by omega) b3;rw [A2] at c3;have h4:=h3.run (Qp E);have l4:=PM.le (Qp E) h3.wf;generalize (Qp E).run s3=y at c3 h4 l4 p4 ⊢;obtain ⟨x3,s4⟩:=y;simp only at c3 h4 l4 p4 ⊢;have b4:(σ.AM i (psA L s4)).blk i=some (psA L s4):=(by rw [AO,if_pos rfl]);obtain ⟨o3,n3,u3,ns3,ks3,al3⟩:=x3;simp only [exA,Ex.A0,AF,AI] at c3 ⊢)
   have c4:=VK (w:Int) (.mk o nm u ns ks al) (Ex.mk o3 n3 u3 ns3 ks3 al3) (σ.AM i (psA L s4))
   simp only [exA,Ex.A0,Ha,exN,AF,AI] at c4
   have c5:=LD h4 3 (σ.AM i (psA L s4)) b4
   rw [A2] at c5
   (repeat' (first|refine Run.ct rfl ?_|((first|refine Run.reg mixed ?_|refine Run.AJ ?_|(refine AH.upd c3 ?_)|(refine AH.upd c5 ?_)|refine AH.det (c4) ?_|(refine AR rfl (fun h=>?_) (fun h=>?_)<;>try (cases h;done)))<;>try simp -implicitDefEqProofs only [hne,go_sem])|(refine ⟨fun h=>?_,fun h=>?_⟩<;>first|(cases h;done)|try simp only [h])|fail))
   have hx:=PZ 13 [] (w:Int) [] [.mk o nm u ns ks al,(Ex.mk o3 n3 u3 ns3 ks3 al3)] []
   simp only [Ex.A0,AF,AI] at hx
   rw [hx]
   exact ih (s4,Ha (w:Int) (.mk o nm u ns ks al) (Ex.mk o3 n3 u3 ns3 ks3 al3),q) ⟨h4,by simp only;omega,by simp only;omega,p4⟩ (by simp only;omega)
theorem zQ {E:PM Ex} {n:Nat} {a:Ex} {s:PSt} (hc:opR 2 s.hd.text≠0):(TH E (n+1) a).run s=(TH E n (Ha ((opR 2 s.hd.text:Nat):Int) a ((Lw E).run s.adv).1)).run ((Lw E).run s.adv).2:=by
 rw [TH]
 simp only [HY,run_bind]
 rw [AA7] at hc ⊢
 cases h0:s.hd.text==[43] with
 |true=>simp
 |false=>
 cases h1:s.hd.text==[45] with
 |true=>simp
 |false=>
 simp [h0,h1] at hc
theorem zP {E:PM Ex} {n:Nat} {a:Ex} {s:PSt} (hc:opR 2 s.hd.text=0):(TH E (n+1) a).run s=(a,s):=by
 rw [TH]
 simp only [HY,run_pure]
 rw [AA7] at hc
 cases h0:s.hd.text==[43] with
 |true=>simp [h0] at hc
 |false=>
 cases h1:s.hd.text==[45] with
 |true=>simp [h0,h1] at hc
 |false=>
 simp
set_option maxHeartbeats 2000000 in
theorem sV (i:Nat) {L:List Tok} (hN:NOk L) (n:Nat) {E:PM Ex} (hE:PC 131 [.gp i 0] i L n E exA):PC 186 [.gp i 0] i L (n+1) (LF E) exA:=by
 intro σ s0 g0 h0 l0 b0
 refine Sv (by simp) ?_
 rw [BE]
 simp only [LF,run_bind]
 (have c0:=(k8 i hN n hE) σ s0 g0 h0 (by omega) b0;have h1:=h0.run (Lw E);have l1:=PM.le (Lw E) h0.wf;generalize (Lw E).run s0=y at c0 h1 l1 ⊢;obtain ⟨x0,s1⟩:=y;simp only at c0 h1 l1 ⊢;have b1:(σ.AM i (psA L s1)).blk i=some (psA L s1):=(by rw [AO,if_pos rfl]);obtain ⟨o0,n0,u0,ns0,ks0,al0⟩:=x0;simp only [exA,Ex.A0,AF,AI] at c0 ⊢)
 have c1:=LD h1 2 (σ.AM i (psA L s1)) b1
 rw [A2] at c1
 (repeat' (first|refine Run.ct rfl ?_|((first|refine Run.reg mixed ?_|refine Run.AJ ?_|(refine AH.upd c0 ?_)|(refine AH.upd c1 ?_)|(refine AR rfl (fun h=>?_) (fun h=>?_)<;>try (cases h;done)))<;>try simp -implicitDefEqProofs only [go_sem])|(refine ⟨fun h=>?_,fun h=>?_⟩<;>first|(cases h;done)|try simp only [h])|fail))
 rw [PZ]
 refine Run.Be ?_
 have hf0:=FL
 have hl0:=h0.suf.length_le
 have hl1:=h0.len
 refine Run.Bn (α:=PSt×Ex×Nat) (fun y=>put 0 (.gp i 0) (put 2 (.lp 2 0) (put 3 (.lp 3 0) (put 4 (.d (.int .i64 ((opR 2 y.1.hd.text:Nat):Int))) U)))) (fun y=>B0 2 [.d (.int .i64 0),.d (.str []),.d (.int .i64 0),.AX,.AX,.AX] (B0 3 (exC y.2.1) Ab.E)) (fun y=>if opR 2 y.1.hd.text=0 then σ.AM i (psA L y.1) else σ.AM i (psA L y.1.adv)) (fun y=>POk L y.1∧y.1.r.length≤n+1∧y.1.r.length≤y.2.2∧(TH E y.2.2 y.2.1).run y.1=(TH E BC (Ex.mk o0 n0 u0 ns0 ks0 al0)).run s1) (fun y=>y.1.r.length) ?_ (s1,(Ex.mk o0 n0 u0 ns0 ks0 al0),BC) ⟨h1,by simp only;omega,by simp only;omega,rfl⟩
 rintro ⟨s2,a,q⟩ ⟨p1,p2,p3,p4⟩ ih
 simp only at p1 p2 p3 p4
 have b2:(σ.AM i (psA L s2)).blk i=some (psA L s2):=(by rw [AO,if_pos rfl])
 obtain ⟨q,rfl⟩:∃m,q=m+1:=⟨q - 1,by have:=An.2 p1.wf.ne;omega⟩
 obtain ⟨o,nm,u,ns,ks,al⟩:=a
 simp only [← PZ]
 by_cases hc:opR 2 s2.hd.text=0
 · rw [zP hc] at p4
   rw [← p4]
   have hne:(((opR 2 s2.hd.text:Nat):Int) != 0)=false:=by rw [hc];rfl
   simp only [exA,exN,Ex.A0,AF,AI,if_pos hc]
   (repeat' (first|refine Run.ct rfl ?_|((first|refine Run.reg mixed ?_|refine Run.AJ ?_|refine Run.A9 Lv (AN.le_refl _) ?_|(refine AR rfl (fun h=>?_) (fun h=>?_)<;>try (cases h;done)))<;>try simp -implicitDefEqProofs only [hne,go_sem])|(refine ⟨fun h=>?_,fun h=>?_⟩<;>first|(cases h;done)|try simp only [h])|fail))
 · rw [zQ hc] at p4
   have hne:(((opR 2 s2.hd.text:Nat):Int) != 0)=true:=by simp;exact hc
   simp only [if_neg hc]
   have h3:POk L s2.adv:=by
    rcases (iM hc) with ⟨t,ht,he⟩
    exact p1.adv ht he
   have l3:=BR p1.wf
   have hop:=rL 2 s2.hd.text
   generalize opR 2 s2.hd.text=w at p4 hne hop ⊢
   generalize s2.adv=s3 at p4 h3 l3 ⊢
   have b3:(σ.AM i (psA L s3)).blk i=some (psA L s3):=(by rw [AO,if_pos rfl])
   (have c3:=(k8 i hN n hE) (σ.AM i (psA L s3)) s3 g0 h3 (by omega) b3;rw [A2] at c3;have h4:=h3.run (Lw E);have l4:=PM.le (Lw E) h3.wf;generalize (Lw E).run s3=y at c3 h4 l4 p4 ⊢;obtain ⟨x3,s4⟩:=y;simp only at c3 h4 l4 p4 ⊢;have b4:(σ.AM i (psA L s4)).blk i=some (psA L s4):=(by rw [AO,if_pos rfl]);obtain ⟨o3,n3,u3,ns3,ks3,al3⟩:=x3;simp only [exA,Ex.A0,AF,AI] at c3 ⊢)
   have c4:=VK (w:Int) (.mk o nm u ns ks al) (Ex.mk o3 n3 u3 ns3 ks3 al3) (σ.AM i (psA L s4))
   simp only [exA,Ex.A0,Ha,exN,AF,AI] at c4
   have c5:=LD h4 2 (σ.AM i (psA L s4)) b4
   rw [A2] at c5
   (repeat' (first|refine Run.ct rfl ?_|((first|refine Run.reg mixed ?_|refine Run.AJ ?_|(refine AH.upd c3 ?_)|(refine AH.upd c5 ?_)|refine AH.det (c4) ?_|(refine AR rfl (fun h=>?_) (fun h=>?_)<;>try (cases h;done)))<;>try simp -implicitDefEqProofs only [hne,go_sem])|(refine ⟨fun h=>?_,fun h=>?_⟩<;>first|(cases h;done)|try simp only [h])|fail))
   have hx:=PZ 13 [] (w:Int) [] [.mk o nm u ns ks al,(Ex.mk o3 n3 u3 ns3 ks3 al3)] []
   simp only [Ex.A0,AF,AI] at hx
   rw [hx]
   exact ih (s4,Ha (w:Int) (.mk o nm u ns ks al) (Ex.mk o3 n3 u3 ns3 ks3 al3),q) ⟨h4,by simp only;omega,by simp only;omega,p4⟩ (by simp only;omega)
end Go.Ab
namespace Go.Ab
open Go.Proofs
theorem Run.zI {cx:Cx} {KK:AV→AN→Prop} {k:List CI} {F:Fm} {q0 q:Nat} {A cs:List AV} {σ σ':AN} (hσ:σ'.le σ) (h:Run cx KK k F (B0 q0 A (B0 q (AV.Ef cs) E)) σ'):Run cx KK k F (B0 q0 A (B0 q cs E)) σ:=by
 refine Run.jT (σ':=σ') (fun _=>.inl rfl) (fun _ _ h=>h) hσ (Run.rO (fun q' cs' hq=>?_) h)
 by_cases e2:q'=q0
 · subst e2
   have:cs'=A:=by simpa [B0] using hq.symm
   exact ⟨A,by simp [B0],.inl this⟩
 · by_cases e3:q'=q
   · subst e3
     have:cs'=AV.Ef cs:=by simpa [B0,e2] using hq.symm
     exact ⟨cs,by simp [B0,e2],.inr this⟩
   · simp [B0,e2,e3,E] at hq
theorem bA:Ar Tryz.prog 172=true:=by kernel_rfl
theorem bB:Ar Tryz.prog 126=true:=by kernel_rfl
theorem yS:Ar Tryz.prog 171=true:=by kernel_rfl
theorem yT:Ar Tryz.prog 129=true:=by kernel_rfl
theorem pO (E:PM Ex) (s:PSt):(WK E).run s=if opR 1 ((LF E).run s).2.hd.text=0 then (LF E).run s else (Ha ((opR 1 ((LF E).run s).2.hd.text:Nat):Int) ((LF E).run s).1 ((LF E).run ((LF E).run s).2.adv).1,((LF E).run ((LF E).run s).2.adv).2):=by
 simp only [WK,run_bind,HY,run_pure]
 generalize (LF E).run s=y
 obtain ⟨a,s1⟩:=y
 simp only
 rw [ABY]
 cases h0:s1.hd.text==[60] with
 |true=>simp
 |false=>
 cases h1:s1.hd.text==[60,61] with
 |true=>simp
 |false=>
 cases h2:s1.hd.text==[61,61] with
 |true=>simp
 |false=>simp
theorem tR (i:Nat) {L:List Tok} (hN:NOk L) (n:Nat) {E:PM Ex} (hE:PC 131 [.gp i 0] i L n E exA):PC 173 [.gp i 0] i L (n+1) (WK E) exA:=by
 intro σ s0 g0 h0 l0 b0
 refine Rb (by simp) ?_
 rw [BE,pO]
 (have c0:=(sV i hN n hE) σ s0 g0 h0 (by omega) b0;have h1:=h0.run (LF E);have l1:=PM.le (LF E) h0.wf;generalize (LF E).run s0=y at c0 h1 l1 ⊢;obtain ⟨x0,s1⟩:=y;simp only at c0 h1 l1 ⊢;have b1:(σ.AM i (psA L s1)).blk i=some (psA L s1):=(by rw [AO,if_pos rfl]);obtain ⟨o0,n0,u0,ns0,ks0,al0⟩:=x0;simp only [exA,Ex.A0,AF,AI] at c0 ⊢)
 have c1:=LD h1 1 (σ.AM i (psA L s1)) b1
 rw [A2] at c1
 by_cases hc:opR 1 s1.hd.text=0
 · have hne:(((opR 1 s1.hd.text:Nat):Int) != 0)=false:=by rw [hc];rfl
   rw [if_pos hc] at c1 ⊢
   simp only [exA,exN,Ex.A0,AF,AI]
   (repeat' (first|refine Run.ct rfl ?_|((first|refine Run.reg mixed ?_|refine Run.AJ ?_|refine Run.A9 HD (AN.le_refl _) ?_|(refine AH.upd c0 ?_)|(refine AH.upd c1 ?_)|(refine AR rfl (fun h=>?_) (fun h=>?_)<;>try (cases h;done)))<;>try simp -implicitDefEqProofs only [hne,go_sem])|(refine ⟨fun h=>?_,fun h=>?_⟩<;>first|(cases h;done)|try simp only [h])|fail))
 · have hne:(((opR 1 s1.hd.text:Nat):Int) != 0)=true:=by simp;exact hc
   rw [if_neg hc] at c1 ⊢
   have h2:POk L s1.adv:=by
    rcases (iM hc) with ⟨t,ht,he⟩
    exact h1.adv ht he
   have l2:=BR h1.wf
   generalize opR 1 s1.hd.text=w at c1 hne ⊢
   generalize s1.adv=s2 at c1 h2 l2 ⊢
   have b2:(σ.AM i (psA L s2)).blk i=some (psA L s2):=(by rw [AO,if_pos rfl])
   (have c2:=(sV i hN n hE) (σ.AM i (psA L s2)) s2 g0 h2 (by omega) b2;rw [A2] at c2;have h3:=h2.run (LF E);have l3:=PM.le (LF E) h2.wf;generalize (LF E).run s2=y at c2 h3 l3 ⊢;obtain ⟨x2,s3⟩:=y;simp only at c2 h3 l3 ⊢;have b3:(σ.AM i (psA L s3)).blk i=some (psA L s3):=(by rw [AO,if_pos rfl]);obtain ⟨o2,n2,u2,ns2,ks2,al2⟩:=x2;simp only [exA,Ex.A0,AF,AI] at c2 ⊢)
   have c4:=VK (w:Int) (Ex.mk o0 n0 u0 ns0 ks0 al0) (Ex.mk o2 n2 u2 ns2 ks2 al2) (σ.AM i (psA L s3))
   simp only [exA,Ex.A0,Ha,exN,AF,AI] at c4 ⊢
   (repeat' (first|refine Run.ct rfl ?_|((first|refine Run.reg mixed ?_|refine Run.AJ ?_|refine Run.A9 HD (AN.le_refl _) ?_|(refine AH.upd c0 ?_)|(refine AH.upd c1 ?_)|(refine AH.upd c2 ?_)|refine AH.det (c4) ?_|(refine AR rfl (fun h=>?_) (fun h=>?_)<;>try (cases h;done)))<;>try simp -implicitDefEqProofs only [hne,go_sem])|(refine ⟨fun h=>?_,fun h=>?_⟩<;>first|(cases h;done)|try simp only [h])|fail))
set_option maxHeartbeats 2000000 in
theorem y5 (i:Nat) (L:List Tok) (n:Nat) {E:PM Ex} (hE:PC 131 [.gp i 0] i L n E exA):PC 169 [.gp i 0] i L n (eD E) exA:=by
 intro σ s0 g0 h0 l0 b0
 refine Su (by simp) ?_
 rw [BE]
 simp only [eD,HY]
 cases t0:s0.hd.text==[40] with
 |true=>
  simp only [if_true,run_bind,run_pure,exA,exN,Ex.A0,AF,AI]
  (have c0:=DG h0 [40] σ b0 t0;have h1:=h0.adv (t:=[40]) (by decide) t0;have l1:=BR h0.wf;generalize s0.adv=s1 at c0 h1 l1 ⊢;have b1:(σ.AM i (psA L s1)).blk i=some (psA L s1):=by rw [AO,if_pos rfl])
  (have c1:=(S1 i L n) (σ.AM i (psA L s1)) s1 g0 h1 (by omega) b1;rw [A2] at c1;have h2:=h1.run (GU);have l2:=PM.le (GU) h1.wf;generalize (GU).run s1=y at c1 h2 l2 ⊢;obtain ⟨x1,s2⟩:=y;simp only at c1 h2 l2 ⊢;have b2:(σ.AM i (psA L s2)).blk i=some (psA L s2):=(by rw [AO,if_pos rfl]))
  (have c2:=(DH i L n [44] (by decide)) (σ.AM i (psA L s2)) s2 g0 h2 (by omega) b2;rw [A2] at c2;have h3:=h2.run (PM.exp [44] (by decide));have l3:=PM.le (PM.exp [44] (by decide)) h2.wf;generalize (PM.exp [44] (by decide)).run s2=y at c2 h3 l3 ⊢;obtain ⟨x2,s3⟩:=y;simp only at c2 h3 l3 ⊢;have b3:(σ.AM i (psA L s3)).blk i=some (psA L s3):=(by rw [AO,if_pos rfl]))
  (have d3:=fun tk:Nat=>(HW i L n bA (S1 i L n)).pc ((σ.AM i (psA L s3)).BW tk) s3 g0 h3 (by omega) (by rw [Fx];exact b3);have c3:=(HW i L n bA (S1 i L n)).pc (σ.AM i (psA L s3)) s3 g0 h3 (by omega) b3;rw [A2] at c3;have h4:=h3.run (listed GU);have l4:=PM.le (listed GU) h3.wf;have n3:=Pp (read:=GU) h3.wf;generalize (listed GU).run s3=y at c3 d3 h4 l4 n3 ⊢;obtain ⟨x3,s4⟩:=y;simp only at c3 d3 h4 l4 n3 ⊢;have q3:=h0.suf.length_le;have q3':=h0.len)
  have b4:(σ.AM i (psA L s4)).blk i=some (psA L s4):=(by rw [AO,if_pos rfl])
  (have c4:=(DH i L n [61] (by decide)) (σ.AM i (psA L s4)) s4 g0 h4 (by omega) b4;rw [A2] at c4;have h5:=h4.run (PM.exp [61] (by decide));have l5:=PM.le (PM.exp [61] (by decide)) h4.wf;generalize (PM.exp [61] (by decide)).run s4=y at c4 h5 l5 ⊢;obtain ⟨x4,s5⟩:=y;simp only at c4 h5 l5 ⊢;have b5:(σ.AM i (psA L s5)).blk i=some (psA L s5):=(by rw [AO,if_pos rfl]))
  (have c5:=hE (σ.AM i (psA L s5)) s5 g0 h5 (by omega) b5;rw [A2] at c5;have h6:=h5.run (E);have l6:=PM.le (E) h5.wf;generalize (E).run s5=y at c5 h6 l6 ⊢;obtain ⟨x5,s6⟩:=y;simp only at c5 h6 l6 ⊢;have b6:(σ.AM i (psA L s6)).blk i=some (psA L s6):=(by rw [AO,if_pos rfl]);obtain ⟨o5,n5,u5,ns5,ks5,al5⟩:=x5;simp only [exA,Ex.A0,AF,AI] at c5 ⊢)
  (have c6:=(DH i L n [105,110] (by decide)) (σ.AM i (psA L s6)) s6 g0 h6 (by omega) b6;rw [A2] at c6;have h7:=h6.run (PM.exp [105,110] (by decide));have l7:=PM.le (PM.exp [105,110] (by decide)) h6.wf;generalize (PM.exp [105,110] (by decide)).run s6=y at c6 h7 l7 ⊢;obtain ⟨x6,s7⟩:=y;simp only at c6 h7 l7 ⊢;have b7:(σ.AM i (psA L s7)).blk i=some (psA L s7):=(by rw [AO,if_pos rfl]))
  (have c7:=hE (σ.AM i (psA L s7)) s7 g0 h7 (by omega) b7;rw [A2] at c7;have h8:=h7.run (E);have l8:=PM.le (E) h7.wf;generalize (E).run s7=y at c7 h8 l8 ⊢;obtain ⟨x7,s8⟩:=y;simp only at c7 h8 l8 ⊢;have b8:(σ.AM i (psA L s8)).blk i=some (psA L s8):=(by rw [AO,if_pos rfl]);obtain ⟨o7,n7,u7,ns7,ks7,al7⟩:=x7;simp only [exA,Ex.A0,AF,AI] at c7 ⊢)
  (repeat' (first|refine Run.ct rfl ?_|((first|refine Run.reg mixed ?_|refine Run.AJ ?_|(refine AH.upd c0 ?_)|(refine AH.upd c1 ?_)|(refine AH.upd c2 ?_)|(refine AR rfl (fun h=>?_) (fun h=>?_)<;>try (cases h;done)))<;>try simp -implicitDefEqProofs only [go_sem])|(refine ⟨fun h=>?_,fun h=>?_⟩<;>first|(cases h;done)|try simp only [h])|fail))
  refine IT.own rfl (by decide) (fun tk htk=>?_);simp -implicitDefEqProofs only [go_sem]
  refine AH.upd (d3 tk) ?_;simp -implicitDefEqProofs only [go_sem]
  (apply LS.tok (LS.uX htk s4);rfl;exact (Mz _ _ (fun _=>rfl));(simp only [AE,AD,AG];omega);decide;intro v2 τ2 ho);simp -implicitDefEqProofs only [ho.own.BT,ho.own.At,ho.own.cells,ho.own.cell,ho.own.plain,ho.own.dv,if_true,go_sem]
  refine Run.zI ho.le ?_
  simp only [AV.Ef,AV.plain,ho.own.plain]
  (repeat' (first|refine Run.ct rfl ?_|((first|refine Run.reg mixed ?_|refine Run.AJ ?_|refine Run.A9 Hb (AN.le_refl _) ?_|(refine AH.upd c4 ?_)|(refine AH.upd c5 ?_)|(refine AH.upd c6 ?_)|(refine AH.upd c7 ?_)|(refine AR rfl (fun h=>?_) (fun h=>?_)<;>try (cases h;done)))<;>try simp -implicitDefEqProofs only [go_sem])|(refine ⟨fun h=>?_,fun h=>?_⟩<;>first|(cases h;done)|try simp only [h])|fail))
  rfl
 |false=>
  have f0:=DF h0 _ σ b0 t0
  simp only [if_false,AU,run_bind,run_pure,exA,exN,Ex.A0,AF,AI]
  (have c0:=(S1 i L n) σ s0 g0 h0 (by omega) b0;have h1:=h0.run (GU);have l1:=PM.le (GU) h0.wf;generalize (GU).run s0=y at c0 h1 l1 ⊢;obtain ⟨x0,s1⟩:=y;simp only at c0 h1 l1 ⊢;have b1:(σ.AM i (psA L s1)).blk i=some (psA L s1):=(by rw [AO,if_pos rfl]))
  (have c1:=(DH i L n [61] (by decide)) (σ.AM i (psA L s1)) s1 g0 h1 (by omega) b1;rw [A2] at c1;have h2:=h1.run (PM.exp [61] (by decide));have l2:=PM.le (PM.exp [61] (by decide)) h1.wf;generalize (PM.exp [61] (by decide)).run s1=y at c1 h2 l2 ⊢;obtain ⟨x1,s2⟩:=y;simp only at c1 h2 l2 ⊢;have b2:(σ.AM i (psA L s2)).blk i=some (psA L s2):=(by rw [AO,if_pos rfl]))
  (have c2:=hE (σ.AM i (psA L s2)) s2 g0 h2 (by omega) b2;rw [A2] at c2;have h3:=h2.run (E);have l3:=PM.le (E) h2.wf;generalize (E).run s2=y at c2 h3 l3 ⊢;obtain ⟨x2,s3⟩:=y;simp only at c2 h3 l3 ⊢;have b3:(σ.AM i (psA L s3)).blk i=some (psA L s3):=(by rw [AO,if_pos rfl]);obtain ⟨o2,n2,u2,ns2,ks2,al2⟩:=x2;simp only [exA,Ex.A0,AF,AI] at c2 ⊢)
  (have c3:=(DH i L n [105,110] (by decide)) (σ.AM i (psA L s3)) s3 g0 h3 (by omega) b3;rw [A2] at c3;have h4:=h3.run (PM.exp [105,110] (by decide));have l4:=PM.le (PM.exp [105,110] (by decide)) h3.wf;generalize (PM.exp [105,110] (by decide)).run s3=y at c3 h4 l4 ⊢;obtain ⟨x3,s4⟩:=y;simp only at c3 h4 l4 ⊢;have b4:(σ.AM i (psA L s4)).blk i=some (psA L s4):=(by rw [AO,if_pos rfl]))
  (have c4:=hE (σ.AM i (psA L s4)) s4 g0 h4 (by omega) b4;rw [A2] at c4;have h5:=h4.run (E);have l5:=PM.le (E) h4.wf;generalize (E).run s4=y at c4 h5 l5 ⊢;obtain ⟨x4,s5⟩:=y;simp only at c4 h5 l5 ⊢;have b5:(σ.AM i (psA L s5)).blk i=some (psA L s5):=(by rw [AO,if_pos rfl]);obtain ⟨o4,n4,u4,ns4,ks4,al4⟩:=x4;simp only [exA,Ex.A0,AF,AI] at c4 ⊢)
  (repeat' (first|refine Run.ct rfl ?_|((first|refine Run.reg mixed ?_|refine Run.AJ ?_|refine Run.A9 Hb (AN.le_refl _) ?_|(refine AH.upd c0 ?_)|(refine AH.upd c1 ?_)|(refine AH.upd c2 ?_)|(refine AH.upd c3 ?_)|(refine AH.upd c4 ?_)|refine AH.det (f0) ?_|(refine AR rfl (fun h=>?_) (fun h=>?_)<;>try (cases h;done)))<;>try simp -implicitDefEqProofs only [go_sem])|(refine ⟨fun h=>?_,fun h=>?_⟩<;>first|(cases h;done)|try simp only [h])|fail))
theorem yA (i:Nat) (L:List Tok) (n:Nat) {E:PM Ex} (hE:PC 131 [.gp i 0] i L n E exA):PC 171 [.gp i 0] i L n (iN E) alA:=by
 intro σ s0 g0 h0 l0 b0
 refine Sp (by simp) ?_
 rw [BE]
 simp only [iN,run_bind,run_pure]
 (have c0:=(SW i L n) σ s0 g0 h0 (by omega) b0;have h1:=h0.run (FG);have l1:=PM.le (FG) h0.wf;generalize (FG).run s0=y at c0 h1 l1 ⊢;obtain ⟨x0,s1⟩:=y;simp only at c0 h1 l1 ⊢;have b1:(σ.AM i (psA L s1)).blk i=some (psA L s1):=(by rw [AO,if_pos rfl]))
 (have c1:=((Og i L n bA (S1 i L n)).pc.mono (Nat.le_succ n)) (σ.AM i (psA L s1)) s1 g0 h1 (by omega) b1;rw [A2] at c1;have h2:=h1.run (Ht GU);have l2:=PM.le (Ht GU) h1.wf;generalize (Ht GU).run s1=y at c1 h2 l2 ⊢;obtain ⟨x1,s2⟩:=y;simp only at c1 h2 l2 ⊢;have b2:(σ.AM i (psA L s2)).blk i=some (psA L s2):=(by rw [AO,if_pos rfl]))
 (have c2:=(DH i L n [45,62] (by decide)) (σ.AM i (psA L s2)) s2 g0 h2 (by omega) b2;rw [A2] at c2;have h3:=h2.run (PM.exp [45,62] (by decide));have l3:=PM.le (PM.exp [45,62] (by decide)) h2.wf;generalize (PM.exp [45,62] (by decide)).run s2=y at c2 h3 l3 ⊢;obtain ⟨x2,s3⟩:=y;simp only at c2 h3 l3 ⊢;have b3:(σ.AM i (psA L s3)).blk i=some (psA L s3):=(by rw [AO,if_pos rfl]))
 (have c3:=hE (σ.AM i (psA L s3)) s3 g0 h3 (by omega) b3;rw [A2] at c3;have h4:=h3.run (E);have l4:=PM.le (E) h3.wf;generalize (E).run s3=y at c3 h4 l4 ⊢;obtain ⟨x3,s4⟩:=y;simp only at c3 h4 l4 ⊢;have b4:(σ.AM i (psA L s4)).blk i=some (psA L s4):=(by rw [AO,if_pos rfl]);obtain ⟨o3,n3,u3,ns3,ks3,al3⟩:=x3;simp only [exA,Ex.A0,AF,AI] at c3 ⊢)
 simp only [alA,Al.A0,AF,AI]
 (repeat' (first|refine Run.ct rfl ?_|((first|refine Run.reg mixed ?_|refine Run.AJ ?_|refine Run.A9 Lq (AN.le_refl _) ?_|(refine AH.upd c0 ?_)|(refine AH.upd c1 ?_)|(refine AH.upd c2 ?_)|(refine AH.upd c3 ?_)|(refine AR rfl (fun h=>?_) (fun h=>?_)<;>try (cases h;done)))<;>try simp -implicitDefEqProofs only [go_sem])|(refine ⟨fun h=>?_,fun h=>?_⟩<;>first|(cases h;done)|try simp only [h])|fail))
set_option maxHeartbeats 4000000 in
theorem kD (i:Nat) {L:List Tok} (hN:NOk L):∀n,PC 131 [.gp i 0] i L n (CD n) exA
 |0=>fun σ s _ h1 h2 h3=>by have:=An.2 h1.wf.ne;omega
 |n+1=>by
  have ih:=kD i hN n
  intro σ s0 g0 h0 l0 b0
  refine Re (by simp) ?_
  rw [BE,CD]
  simp only [HY]
  cases t1:s0.hd.text==[108,101,116] with
  |true=>
   simp only [if_true]
   (have c0:=DG h0 [108,101,116] σ b0 t1;have h1:=h0.adv (t:=[108,101,116]) (by decide) t1;have l1:=BR h0.wf;generalize s0.adv=s1 at c0 h1 l1 ⊢;have b1:(σ.AM i (psA L s1)).blk i=some (psA L s1):=by rw [AO,if_pos rfl])
   (have c1:=(y5 i L n ih) (σ.AM i (psA L s1)) s1 g0 h1 (by omega) b1;rw [A2] at c1;have h2:=h1.run (eD (CD n));have l2:=PM.le (eD (CD n)) h1.wf;generalize (eD (CD n)).run s1=y at c1 h2 l2 ⊢;obtain ⟨x1,s2⟩:=y;simp only at c1 h2 l2 ⊢;have b2:(σ.AM i (psA L s2)).blk i=some (psA L s2):=(by rw [AO,if_pos rfl]);obtain ⟨o1,n1,u1,ns1,ks1,al1⟩:=x1;simp only [exA,Ex.A0,AF,AI] at c1 ⊢)
   (repeat' (first|refine Run.ct rfl ?_|((first|refine Run.reg mixed ?_|refine Run.AJ ?_|refine Run.A9 CU (AN.le_refl _) ?_|(refine AH.upd c0 ?_)|(refine AH.upd c1 ?_)|(refine AR rfl (fun h=>?_) (fun h=>?_)<;>try (cases h;done)))<;>try simp -implicitDefEqProofs only [go_sem])|(refine ⟨fun h=>?_,fun h=>?_⟩<;>first|(cases h;done)|try simp only [h])|fail))
  |false=>
  have f1:=DF h0 _ σ b0 t1
  cases t2:s0.hd.text==[105,102] with
  |true=>
   simp only [if_true,if_false,AU,run_bind,run_pure,exA,exN,Ex.A0,AF,AI]
   (have c0:=DG h0 [105,102] σ b0 t2;have h1:=h0.adv (t:=[105,102]) (by decide) t2;have l1:=BR h0.wf;generalize s0.adv=s1 at c0 h1 l1 ⊢;have b1:(σ.AM i (psA L s1)).blk i=some (psA L s1):=by rw [AO,if_pos rfl])
   (have c1:=ih (σ.AM i (psA L s1)) s1 g0 h1 (by omega) b1;rw [A2] at c1;have h2:=h1.run (CD n);have l2:=PM.le (CD n) h1.wf;generalize (CD n).run s1=y at c1 h2 l2 ⊢;obtain ⟨x1,s2⟩:=y;simp only at c1 h2 l2 ⊢;have b2:(σ.AM i (psA L s2)).blk i=some (psA L s2):=(by rw [AO,if_pos rfl]);obtain ⟨o1,n1,u1,ns1,ks1,al1⟩:=x1;simp only [exA,Ex.A0,AF,AI] at c1 ⊢)
   (have c2:=(DH i L n [116,104,101,110] (by decide)) (σ.AM i (psA L s2)) s2 g0 h2 (by omega) b2;rw [A2] at c2;have h3:=h2.run (PM.exp [116,104,101,110] (by decide));have l3:=PM.le (PM.exp [116,104,101,110] (by decide)) h2.wf;generalize (PM.exp [116,104,101,110] (by decide)).run s2=y at c2 h3 l3 ⊢;obtain ⟨x2,s3⟩:=y;simp only at c2 h3 l3 ⊢;have b3:(σ.AM i (psA L s3)).blk i=some (psA L s3):=(by rw [AO,if_pos rfl]))
   (have c3:=ih (σ.AM i (psA L s3)) s3 g0 h3 (by omega) b3;rw [A2] at c3;have h4:=h3.run (CD n);have l4:=PM.le (CD n) h3.wf;generalize (CD n).run s3=y at c3 h4 l4 ⊢;obtain ⟨x3,s4⟩:=y;simp only at c3 h4 l4 ⊢;have b4:(σ.AM i (psA L s4)).blk i=some (psA L s4):=(by rw [AO,if_pos rfl]);obtain ⟨o3,n3,u3,ns3,ks3,al3⟩:=x3;simp only [exA,Ex.A0,AF,AI] at c3 ⊢)
   (have c4:=(DH i L n [101,108,115,101] (by decide)) (σ.AM i (psA L s4)) s4 g0 h4 (by omega) b4;rw [A2] at c4;have h5:=h4.run (PM.exp [101,108,115,101] (by decide));have l5:=PM.le (PM.exp [101,108,115,101] (by decide)) h4.wf;generalize (PM.exp [101,108,115,101] (by decide)).run s4=y at c4 h5 l5 ⊢;obtain ⟨x4,s5⟩:=y;simp only at c4 h5 l5 ⊢;have b5:(σ.AM i (psA L s5)).blk i=some (psA L s5):=(by rw [AO,if_pos rfl]))
   (have c5:=ih (σ.AM i (psA L s5)) s5 g0 h5 (by omega) b5;rw [A2] at c5;have h6:=h5.run (CD n);have l6:=PM.le (CD n) h5.wf;generalize (CD n).run s5=y at c5 h6 l6 ⊢;obtain ⟨x5,s6⟩:=y;simp only at c5 h6 l6 ⊢;have b6:(σ.AM i (psA L s6)).blk i=some (psA L s6):=(by rw [AO,if_pos rfl]);obtain ⟨o5,n5,u5,ns5,ks5,al5⟩:=x5;simp only [exA,Ex.A0,AF,AI] at c5 ⊢)
   (repeat' (first|refine Run.ct rfl ?_|((first|refine Run.reg mixed ?_|refine Run.AJ ?_|refine Run.A9 CU (AN.le_refl _) ?_|(refine AH.upd c0 ?_)|(refine AH.upd c1 ?_)|(refine AH.upd c2 ?_)|(refine AH.upd c3 ?_)|(refine AH.upd c4 ?_)|(refine AH.upd c5 ?_)|refine AH.det (f1) ?_|(refine AR rfl (fun h=>?_) (fun h=>?_)<;>try (cases h;done)))<;>try simp -implicitDefEqProofs only [go_sem])|(refine ⟨fun h=>?_,fun h=>?_⟩<;>first|(cases h;done)|try simp only [h])|fail))
  |false=>
  have f2:=DF h0 _ σ b0 t2
  cases t3:s0.hd.text==[109,97,116,99,104] with
  |true=>
   simp only [if_true,if_false,AU,run_bind,run_pure,exA,exN,Ex.A0,AF,AI]
   (have c0:=DG h0 [109,97,116,99,104] σ b0 t3;have h1:=h0.adv (t:=[109,97,116,99,104]) (by decide) t3;have l1:=BR h0.wf;generalize s0.adv=s1 at c0 h1 l1 ⊢;have b1:(σ.AM i (psA L s1)).blk i=some (psA L s1):=by rw [AO,if_pos rfl])
   (have c1:=ih (σ.AM i (psA L s1)) s1 g0 h1 (by omega) b1;rw [A2] at c1;have h2:=h1.run (CD n);have l2:=PM.le (CD n) h1.wf;generalize (CD n).run s1=y at c1 h2 l2 ⊢;obtain ⟨x1,s2⟩:=y;simp only at c1 h2 l2 ⊢;have b2:(σ.AM i (psA L s2)).blk i=some (psA L s2):=(by rw [AO,if_pos rfl]);obtain ⟨o1,n1,u1,ns1,ks1,al1⟩:=x1;simp only [exA,Ex.A0,AF,AI] at c1 ⊢)
   (have c2:=(DH i L n [119,105,116,104] (by decide)) (σ.AM i (psA L s2)) s2 g0 h2 (by omega) b2;rw [A2] at c2;have h3:=h2.run (PM.exp [119,105,116,104] (by decide));have l3:=PM.le (PM.exp [119,105,116,104] (by decide)) h2.wf;generalize (PM.exp [119,105,116,104] (by decide)).run s2=y at c2 h3 l3 ⊢;obtain ⟨x2,s3⟩:=y;simp only at c2 h3 l3 ⊢;have b3:(σ.AM i (psA L s3)).blk i=some (psA L s3):=(by rw [AO,if_pos rfl]))
   (have c3:=(V1 i L n yS (yA i L n ih) [124] (by decide)).pc (σ.AM i (psA L s3)) s3 g0 h3 (by omega) b3;rw [A2] at c3;have h4:=h3.run (items (iN (CD n)) [124] (by decide));have l4:=PM.le (items (iN (CD n)) [124] (by decide)) h3.wf;generalize (items (iN (CD n)) [124] (by decide)).run s3=y at c3 h4 l4 ⊢;obtain ⟨x3,s4⟩:=y;simp only at c3 h4 l4 ⊢;have b4:(σ.AM i (psA L s4)).blk i=some (psA L s4):=(by rw [AO,if_pos rfl]))
   (have c4:=(DH i L n [101,110,100] (by decide)) (σ.AM i (psA L s4)) s4 g0 h4 (by omega) b4;rw [A2] at c4;have h5:=h4.run (PM.exp [101,110,100] (by decide));have l5:=PM.le (PM.exp [101,110,100] (by decide)) h4.wf;generalize (PM.exp [101,110,100] (by decide)).run s4=y at c4 h5 l5 ⊢;obtain ⟨x4,s5⟩:=y;simp only at c4 h5 l5 ⊢;have b5:(σ.AM i (psA L s5)).blk i=some (psA L s5):=(by rw [AO,if_pos rfl]))
   (repeat' (first|refine Run.ct rfl ?_|((first|refine Run.reg mixed ?_|refine Run.AJ ?_|refine Run.A9 CU (AN.le_refl _) ?_|(refine AH.upd c0 ?_)|(refine AH.upd c1 ?_)|(refine AH.upd c2 ?_)|(refine AH.upd c3 ?_)|(refine AH.upd c4 ?_)|refine AH.det (f1) ?_|refine AH.det (f2) ?_|(refine AR rfl (fun h=>?_) (fun h=>?_)<;>try (cases h;done)))<;>try simp -implicitDefEqProofs only [go_sem])|(refine ⟨fun h=>?_,fun h=>?_⟩<;>first|(cases h;done)|try simp only [h])|fail))
  |false=>
  have f3:=DF h0 _ σ b0 t3
  cases t4:s0.hd.text==[102,110] with
  |true=>
   simp only [if_true,if_false,AU,run_bind,run_pure,exA,exN,Ex.A0,AF,AI]
   (have c0:=DG h0 [102,110] σ b0 t4;have h1:=h0.adv (t:=[102,110]) (by decide) t4;have l1:=BR h0.wf;generalize s0.adv=s1 at c0 h1 l1 ⊢;have b1:(σ.AM i (psA L s1)).blk i=some (psA L s1):=by rw [AO,if_pos rfl])
   (have c1:=(DH i L n [40] (by decide)) (σ.AM i (psA L s1)) s1 g0 h1 (by omega) b1;rw [A2] at c1;have h2:=h1.run (PM.exp [40] (by decide));have l2:=PM.le (PM.exp [40] (by decide)) h1.wf;generalize (PM.exp [40] (by decide)).run s1=y at c1 h2 l2 ⊢;obtain ⟨x1,s2⟩:=y;simp only at c1 h2 l2 ⊢;have b2:(σ.AM i (psA L s2)).blk i=some (psA L s2):=(by rw [AO,if_pos rfl]))
   (have c2:=(OX i L n bB (Ps i L n)).pc (σ.AM i (psA L s2)) s2 g0 h2 (by omega) b2;rw [A2] at c2;have h3:=h2.run (closed FB);have l3:=PM.le (closed FB) h2.wf;generalize (closed FB).run s2=y at c2 h3 l3 ⊢;obtain ⟨x2,s3⟩:=y;simp only at c2 h3 l3 ⊢;have b3:(σ.AM i (psA L s3)).blk i=some (psA L s3):=(by rw [AO,if_pos rfl]))
   (have c3:=(DH i L n [45,62] (by decide)) (σ.AM i (psA L s3)) s3 g0 h3 (by omega) b3;rw [A2] at c3;have h4:=h3.run (PM.exp [45,62] (by decide));have l4:=PM.le (PM.exp [45,62] (by decide)) h3.wf;generalize (PM.exp [45,62] (by decide)).run s3=y at c3 h4 l4 ⊢;obtain ⟨x3,s4⟩:=y;simp only at c3 h4 l4 ⊢;have b4:(σ.AM i (psA L s4)).blk i=some (psA L s4):=(by rw [AO,if_pos rfl]))
   (have c4:=ih (σ.AM i (psA L s4)) s4 g0 h4 (by omega) b4;rw [A2] at c4;have h5:=h4.run (CD n);have l5:=PM.le (CD n) h4.wf;generalize (CD n).run s4=y at c4 h5 l5 ⊢;obtain ⟨x4,s5⟩:=y;simp only at c4 h5 l5 ⊢;have b5:(σ.AM i (psA L s5)).blk i=some (psA L s5):=(by rw [AO,if_pos rfl]);obtain ⟨o4,n4,u4,ns4,ks4,al4⟩:=x4;simp only [exA,Ex.A0,AF,AI] at c4 ⊢)
   (repeat' (first|refine Run.ct rfl ?_|((first|refine Run.reg mixed ?_|refine Run.AJ ?_|refine Run.A9 CU (AN.le_refl _) ?_|(refine AH.upd c0 ?_)|(refine AH.upd c1 ?_)|(refine AH.upd c2 ?_)|(refine AH.upd c3 ?_)|(refine AH.upd c4 ?_)|refine AH.det (f1) ?_|refine AH.det (f2) ?_|refine AH.det (f3) ?_|(refine AR rfl (fun h=>?_) (fun h=>?_)<;>try (cases h;done)))<;>try simp -implicitDefEqProofs only [go_sem])|(refine ⟨fun h=>?_,fun h=>?_⟩<;>first|(cases h;done)|try simp only [h])|fail))
  |false=>
  have f4:=DF h0 _ σ b0 t4
  cases t5:s0.hd.text==[116,114,121] with
  |true=>
   simp only [if_true,if_false,AU,run_bind,run_pure,exA,exN,Ex.A0,AF,AI]
   (have c0:=DG h0 [116,114,121] σ b0 t5;have h1:=h0.adv (t:=[116,114,121]) (by decide) t5;have l1:=BR h0.wf;generalize s0.adv=s1 at c0 h1 l1 ⊢;have b1:(σ.AM i (psA L s1)).blk i=some (psA L s1):=by rw [AO,if_pos rfl])
   (have c1:=ih (σ.AM i (psA L s1)) s1 g0 h1 (by omega) b1;rw [A2] at c1;have h2:=h1.run (CD n);have l2:=PM.le (CD n) h1.wf;generalize (CD n).run s1=y at c1 h2 l2 ⊢;obtain ⟨x1,s2⟩:=y;simp only at c1 h2 l2 ⊢;have b2:(σ.AM i (psA L s2)).blk i=some (psA L s2):=(by rw [AO,if_pos rfl]);obtain ⟨o1,n1,u1,ns1,ks1,al1⟩:=x1;simp only [exA,Ex.A0,AF,AI] at c1 ⊢)
   (have c2:=(DH i L n [99,97,116,99,104] (by decide)) (σ.AM i (psA L s2)) s2 g0 h2 (by omega) b2;rw [A2] at c2;have h3:=h2.run (PM.exp [99,97,116,99,104] (by decide));have l3:=PM.le (PM.exp [99,97,116,99,104] (by decide)) h2.wf;generalize (PM.exp [99,97,116,99,104] (by decide)).run s2=y at c2 h3 l3 ⊢;obtain ⟨x2,s3⟩:=y;simp only at c2 h3 l3 ⊢;have b3:(σ.AM i (psA L s3)).blk i=some (psA L s3):=(by rw [AO,if_pos rfl]))
   (have c3:=(S1 i L n) (σ.AM i (psA L s3)) s3 g0 h3 (by omega) b3;rw [A2] at c3;have h4:=h3.run (GU);have l4:=PM.le (GU) h3.wf;generalize (GU).run s3=y at c3 h4 l4 ⊢;obtain ⟨x3,s4⟩:=y;simp only at c3 h4 l4 ⊢;have b4:(σ.AM i (psA L s4)).blk i=some (psA L s4):=(by rw [AO,if_pos rfl]))
   (have c4:=(DH i L n [45,62] (by decide)) (σ.AM i (psA L s4)) s4 g0 h4 (by omega) b4;rw [A2] at c4;have h5:=h4.run (PM.exp [45,62] (by decide));have l5:=PM.le (PM.exp [45,62] (by decide)) h4.wf;generalize (PM.exp [45,62] (by decide)).run s4=y at c4 h5 l5 ⊢;obtain ⟨x4,s5⟩:=y;simp only at c4 h5 l5 ⊢;have b5:(σ.AM i (psA L s5)).blk i=some (psA L s5):=(by rw [AO,if_pos rfl]))
   (have c5:=ih (σ.AM i (psA L s5)) s5 g0 h5 (by omega) b5;rw [A2] at c5;have h6:=h5.run (CD n);have l6:=PM.le (CD n) h5.wf;generalize (CD n).run s5=y at c5 h6 l6 ⊢;obtain ⟨x5,s6⟩:=y;simp only at c5 h6 l6 ⊢;have b6:(σ.AM i (psA L s6)).blk i=some (psA L s6):=(by rw [AO,if_pos rfl]);obtain ⟨o5,n5,u5,ns5,ks5,al5⟩:=x5;simp only [exA,Ex.A0,AF,AI] at c5 ⊢)
   (have c6:=(DH i L n [101,110,100] (by decide)) (σ.AM i (psA L s6)) s6 g0 h6 (by omega) b6;rw [A2] at c6;have h7:=h6.run (PM.exp [101,110,100] (by decide));have l7:=PM.le (PM.exp [101,110,100] (by decide)) h6.wf;generalize (PM.exp [101,110,100] (by decide)).run s6=y at c6 h7 l7 ⊢;obtain ⟨x6,s7⟩:=y;simp only at c6 h7 l7 ⊢;have b7:(σ.AM i (psA L s7)).blk i=some (psA L s7):=(by rw [AO,if_pos rfl]))
   (repeat' (first|refine Run.ct rfl ?_|((first|refine Run.reg mixed ?_|refine Run.AJ ?_|refine Run.A9 CU (AN.le_refl _) ?_|(refine AH.upd c0 ?_)|(refine AH.upd c1 ?_)|(refine AH.upd c2 ?_)|(refine AH.upd c3 ?_)|(refine AH.upd c4 ?_)|(refine AH.upd c5 ?_)|(refine AH.upd c6 ?_)|refine AH.det (f1) ?_|refine AH.det (f2) ?_|refine AH.det (f3) ?_|refine AH.det (f4) ?_|(refine AR rfl (fun h=>?_) (fun h=>?_)<;>try (cases h;done)))<;>try simp -implicitDefEqProofs only [go_sem])|(refine ⟨fun h=>?_,fun h=>?_⟩<;>first|(cases h;done)|try simp only [h])|fail))
  |false=>
  have f5:=DF h0 _ σ b0 t5
  simp only [if_false,AU]
  (have c0:=(tR i hN n ih) σ s0 g0 h0 (by omega) b0;have h1:=h0.run (WK (CD n));have l1:=PM.le (WK (CD n)) h0.wf;generalize (WK (CD n)).run s0=y at c0 h1 l1 ⊢;obtain ⟨x0,s1⟩:=y;simp only at c0 h1 l1 ⊢;have b1:(σ.AM i (psA L s1)).blk i=some (psA L s1):=(by rw [AO,if_pos rfl]);obtain ⟨o0,n0,u0,ns0,ks0,al0⟩:=x0;simp only [exA,Ex.A0,AF,AI] at c0 ⊢)
  (repeat' (first|refine Run.ct rfl ?_|((first|refine Run.reg mixed ?_|refine Run.AJ ?_|refine Run.A9 CU (AN.le_refl _) ?_|(refine AH.upd c0 ?_)|refine AH.det (f1) ?_|refine AH.det (f2) ?_|refine AH.det (f3) ?_|refine AH.det (f4) ?_|refine AH.det (f5) ?_|(refine AR rfl (fun h=>?_) (fun h=>?_)<;>try (cases h;done)))<;>try simp -implicitDefEqProofs only [go_sem])|(refine ⟨fun h=>?_,fun h=>?_⟩<;>first|(cases h;done)|try simp only [h])|fail))
end Go.Ab
