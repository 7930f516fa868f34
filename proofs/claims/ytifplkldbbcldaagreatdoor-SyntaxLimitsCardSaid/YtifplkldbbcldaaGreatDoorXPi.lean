/- The parser: applications, products, sums, comparisons. The parser: products, sums, comparisons, binders, expressions. The parser: comparisons, binders, expressions. Conditions: none. -/
import Derived.Test.YtifplkldbbcldaaGreatDoorXUi
set_option linter.unusedSimpArgs false
set_option linter.unusedVariables false
set_option maxRecDepth 4000
set_option maxHeartbeats 8000000
open List renaming all_eq_true→A6,getElem_of_mem→C7,getElem?_eq_getElem→Aq,mem_of_getElem?→Af,map_cons→AF,map_nil→AI,length_pos_iff→Ar,length_map→AE,length_cons→AD,length_nil→AG
open Option renaming map_some→CZ
open Option.some renaming injEq→AP,inj→Ic
open Bool renaming false_eq_true→AU
namespace Go.Ab
open Go.Proofs
theorem Run.qV {cx:Cx} {KK:AV→AN→Prop} {k:List CI} {F:Fm} {L L':Lm} {σ:AN} (hL:∀q cs',L' q=some cs'→∃cs,L q=some cs∧(cs'=cs∨cs'=AV.Ey cs)) (h:Run cx KK k F L' σ):Run cx KK k F L σ:=by
 intro items base g lam Pr a w0 w b cs0 hi0 hf hb hk
 refine h items base g lam Pr a w0 w b cs0 hi0 ⟨hf.tm,hf.sz,hf.df,fun q cs' hq=>?_,hf.inj,hf.npr,hf.rel⟩ hb hk
 obtain ⟨cs,hc,hp⟩:=hL q cs' hq
 obtain ⟨hok,b',vs,ty,h1,h2,h3,h4⟩:=hf.loc q cs hc
 refine ⟨?_,b',vs,ty,h1,h2,h3,?_⟩
 · rcases hp with rfl|rfl
   · exact hok
   · simp only [Ag,A6] at hok ⊢
     intro v hv
     obtain ⟨i,hi,rfl⟩:=C7 hv
     have h1:=Mu cs i
     rw [Aq hi] at h1
     cases hcs:cs[i]? with
     |none=>rw [hcs] at h1;cases h1
     |some c'=>rw [hcs] at h1;simp only [CZ,AP] at h1;rw [h1];exact Xt (hok c' (Af hcs))
 · rcases hp with rfl|rfl
   · exact h4
   · exact h4.plain
def exC (e:Ex):List AV:=e.enc.map AV.d
theorem PV (o:Int) (n:Str) (u:Int) (ns:List Str) (ks:List Ex) (al:List Al):[AV.d (.int .i64 o),.d (.str n),.d (.int .i64 u),.d (.sl (ns.map Dr)),.d (.sl (ks.map Ex.enc)),.d (.sl (al.map Al.enc))]=exC (.mk o n u ns ks al):=by
 rw [exC,Ex.A2];rfl
theorem XW (i:Nat) (L:List Tok) (n:Nat) {E:PM Ex} (hE:PC 131 [.gp i 0] i L n E exA):PC 208 [.gp i 0,.fn 131 [.gp i 0] []] i L n (closed E) (fun l=>.d (.sl (l.map Ex.enc))):=(Te i L n Wc hE).pc
theorem w7 {E:PM Ex} {n:Nat} {a:Ex} {s:PSt} (hc:(s.hd.text==[40])=true):(T8 E (n+1) a).run s=(T8 E n (exN 12 0 (a::((closed E).run s.adv).1))).run ((closed E).run s.adv).2:=if_pos hc
theorem w6 {E:PM Ex} {n:Nat} {a:Ex} {s:PSt} (hc:(s.hd.text==[40])=false):(T8 E (n+1) a).run s=(a,s):=if_neg (by rw [hc];decide)
set_option maxHeartbeats 2000000 in
theorem oL (i:Nat) {L:List Tok} (hN:NOk L) (n:Nat) {E:PM Ex} (hE:PC 131 [.gp i 0] i L n E exA):PC 204 [.gp i 0] i L (n+1) (Qe E) exA:=by
 intro σ s0 g0 h0 l0 b0
 refine Sh (by simp) ?_
 rw [BB]
 simp only [Qe,run_bind]
 (have c0:=(uQ i hN n hE) σ s0 g0 h0 (by omega) b0;have h1:=h0.run (IY E);have l1:=PM.le (IY E) h0.wf;generalize (IY E).run s0=y at c0 h1 l1 ⊢;obtain ⟨x0,s1⟩:=y;simp only at c0 h1 l1 ⊢;have b1:(σ.AK i (psA L s1)).blk i=some (psA L s1):=(by rw [AO,if_pos rfl]);obtain ⟨o0,n0,u0,ns0,ks0,al0⟩:=x0;simp only [exA,Ex.A2,AF,AI] at c0 ⊢)
 (repeat' (first|refine Run.ct rfl ?_|((first|refine Run.reg mixed ?_|refine Run.AL ?_|(refine AH.upd c0 ?_)|(refine AR rfl (fun h=>?_) (fun h=>?_)<;>try (cases h;done)))<;>try simp -implicitDefEqProofs only [go_sem])|(refine ⟨fun h=>?_,fun h=>?_⟩<;>first|(cases h;done)|try simp only [h])|fail))
 rw [PV]
 refine Run.Bb ?_
 have hf0:=FZ
 have hl0:=h0.suf.length_le
 have hl1:=h0.len
 refine Run.Bh (α:=PSt×Ex×Nat) (fun _=>put 0 (.gp i 0) (put 2 (.lp 2 0) (put 3 (.lp 3 0) U))) (fun y=>B4 2 [.d (.int .i64 0),.d (.str []),.d (.int .i64 0),.AX,.AX,.AX] (B4 3 (exC y.2.1) Ab.E)) (fun y=>σ.AK i (psA L y.1)) (fun y=>POk L y.1∧y.1.r.length≤n+1∧y.1.r.length≤y.2.2∧(T8 E y.2.2 y.2.1).run y.1=(T8 E BF (Ex.mk o0 n0 u0 ns0 ks0 al0)).run s1) (fun y=>y.1.r.length) ?_ (s1,(Ex.mk o0 n0 u0 ns0 ks0 al0),BF) ⟨h1,by simp only;omega,by simp only;omega,rfl⟩
 rintro ⟨s2,a,q⟩ ⟨p1,p2,p3,p4⟩ ih
 simp only at p1 p2 p3 p4
 have b2:(σ.AK i (psA L s2)).blk i=some (psA L s2):=(by rw [AO,if_pos rfl])
 obtain ⟨q,rfl⟩:∃m,q=m+1:=⟨q - 1,by have:=Ar.2 p1.wf.ne;omega⟩
 have hlen:=Tf (read:=E) (s:=s2.adv)
 obtain ⟨o,nm,u,ns,ks,al⟩:=a
 simp only [← PV]
 cases hc:s2.hd.text==[40] with
 |false=>
  rw [w6 hc] at p4
  rw [← p4]
  simp only [exA,exN,Ex.A2,AF,AI]
  (repeat' (first|refine Run.ct rfl ?_|((first|refine Run.reg mixed ?_|refine Run.AL ?_|refine Run.Ad Lp (AN.le_refl _) ?_|refine AH.det (Cy p1 _ (σ.AK i (psA L s2)) b2 hc) ?_|(refine AR rfl (fun h=>?_) (fun h=>?_)<;>try (cases h;done)))<;>try simp -implicitDefEqProofs only [go_sem])|(refine ⟨fun h=>?_,fun h=>?_⟩<;>first|(cases h;done)|try simp only [h])|fail))
 |true=>
  rw [w7 hc] at p4
  have h2:=p1
  (have c2:=Cz h2 [40] (σ.AK i (psA L s2)) b2 hc;rw [A1] at c2;have h3:=h2.adv (t:=[40]) (by decide) hc;have l3:=BT h2.wf;generalize s2.adv=s3 at c2 h3 l3 p4 ⊢;have b3:(σ.AK i (psA L s3)).blk i=some (psA L s3):=by rw [AO,if_pos rfl])
  have d3:=fun tk:Nat=>XW i L n hE ((σ.AK i (psA L s3)).DX tk) s3 g0 h3 (by omega) (by rw [Ft];exact b3)
  have c3:=XW i L n hE (σ.AK i (psA L s3)) s3 g0 h3 (by omega) b3
  rw [A1] at c3
  have h4:=h3.run (closed E)
  have l4:=PM.le (closed E) h3.wf
  have n3:=Tf (read:=E) h3.wf
  generalize (closed E).run s3=y at c3 d3 h4 l4 n3 p4
  obtain ⟨x3,s4⟩:=y
  simp only at c3 d3 h4 l4 n3 p4
  have q3:=h3.suf.length_le
  have hfin:∀v2 τ2,LS σ i L s4 44 6 ((Ex.mk o nm u ns ks al::x3).map Ex.enc) v2 τ2→Run DS (fun v σ'=>v= .agg (((T8 E BF (Ex.mk o0 n0 u0 ns0 ks0 al0)).run s1).1.enc.map AV.d)∧σ'=σ.AK i (psA L ((T8 E BF (Ex.mk o0 n0 u0 ns0 ks0 al0)).run s1).2))
   [CI.again Io,CI.blk 0,CI.code ((C.reg [⟨some 16,.ldl (.t 3) (some 6),none⟩,⟨none,.st (.t 2) (.t 16) 6,none⟩] [2]).seq C.ret)]
   (put 0 (.gp i 0) (put 2 (.lp 2 0) (put 3 (.lp 3 0) U))) (B4 2 [.d (.int .i64 0),.d (.str []),.d (.int .i64 0),.AX,.AX,.AX] (B4 3 [.d (.int .i64 12),.d (.str []),.d (.int .i64 0),.AX,v2,.AX] Ab.E)) τ2:=fun v2 τ2 ho=>by
   refine Run.jD (σ':=σ.AK i (psA L s4)) (fun _=>.inl rfl) (fun _ _ h=>h) ho.le ?_
   have hpl:AV.Ey [.d (.int .i64 12),.d (.str []),.d (.int .i64 0),.AX,v2,.AX]=exC (exN 12 0 (Ex.mk o nm u ns ks al::x3)):=by
    rw [exN,← PV]
    simp only [AV.Ey,AV.plain,ho.own.plain,AI]
   refine Run.qV (L':=B4 2 [.d (.int .i64 0),.d (.str []),.d (.int .i64 0),.AX,.AX,.AX] (B4 3 (exC (exN 12 0 (Ex.mk o nm u ns ks al::x3))) Ab.E)) (fun q' cs' hq=>?_) (ih (s4,exN 12 0 (Ex.mk o nm u ns ks al::x3),q) ⟨h4,by simp only;omega,by simp only;omega,p4⟩ (by simp only;omega))
   by_cases e2:q'=2
   · subst e2
     exact ⟨cs',hq,.inl rfl⟩
   · by_cases e3:q'=3
     · subst e3
       have:cs'=exC (exN 12 0 (Ex.mk o nm u ns ks al::x3)):=(Ic hq).symm
       exact ⟨_,rfl,.inr (by rw [this,hpl])⟩
     · simp [B4,e2,e3,Ab.E] at hq
  (repeat' (first|refine Run.ct rfl ?_|((first|refine Run.reg mixed ?_|refine Run.AL ?_|(refine AH.upd c2 ?_)|(refine AR rfl (fun h=>?_) (fun h=>?_)<;>try (cases h;done)))<;>try simp -implicitDefEqProofs only [go_sem])|(refine ⟨fun h=>?_,fun h=>?_⟩<;>first|(cases h;done)|try simp only [h])|fail))
  refine Run.Tu mixed ?_;simp -implicitDefEqProofs only [go_sem]
  refine ⟨?_,?_⟩
  · refine IJ.own rfl (by decide) (fun tk htk=>?_);simp -implicitDefEqProofs only [go_sem]
    refine AH.upd (d3 tk) ?_;simp -implicitDefEqProofs only [go_sem]
    (apply LS.tok (LS.tV htk s4);rfl;exact (Mx _ _ Ex.tO);(simp only [AE,AD,AG];omega);decide;intro v2 τ2 ho);simp -implicitDefEqProofs only [ho.own.BQ,ho.own.At,ho.own.cells,ho.own.cell,ho.own.plain,ho.own.dv,if_true,go_sem]
    (repeat' (first|refine Run.ct rfl ?_|((first|refine Run.reg mixed ?_|refine Run.AL ?_|(refine AR rfl (fun h=>?_) (fun h=>?_)<;>try (cases h;done)))<;>try simp -implicitDefEqProofs only [ho.own.BQ,ho.own.At,ho.own.cells,ho.own.cell,ho.own.plain,ho.own.dv,if_true,go_sem])|(refine ⟨fun h=>?_,fun h=>?_⟩<;>first|(cases h;done)|try simp only [h])|fail))
    exact hfin v2 τ2 (by rw [AF,Ex.A2];exact ho)
  · refine AH.upd c3 ?_;simp -implicitDefEqProofs only [go_sem]
    refine IJ.own rfl (by decide) (fun tk htk=>?_);simp -implicitDefEqProofs only [go_sem]
    (apply LS.tok (LS.tU htk);rfl;exact (Mx _ _ Ex.tO);(simp only [AE,AD,AG];omega);decide;intro v2 τ2 ho);simp -implicitDefEqProofs only [ho.own.BQ,ho.own.At,ho.own.cells,ho.own.cell,ho.own.plain,ho.own.dv,if_true,go_sem]
    (repeat' (first|refine Run.ct rfl ?_|((first|refine Run.reg mixed ?_|refine Run.AL ?_|(refine AR rfl (fun h=>?_) (fun h=>?_)<;>try (cases h;done)))<;>try simp -implicitDefEqProofs only [ho.own.BQ,ho.own.At,ho.own.cells,ho.own.cell,ho.own.plain,ho.own.dv,if_true,go_sem])|(refine ⟨fun h=>?_,fun h=>?_⟩<;>first|(cases h;done)|try simp only [h])|fail))
    exact hfin v2 τ2 (by rw [AF,Ex.A2];exact ho)
end Go.Ab
namespace Go.Ab
open Go.Proofs
theorem Zb (lv:Nat) (t:Str):∀n k,k+n≤9→KA lv t n k≤8
 |0,k,_=>by rw [KA];omega
 |n+1,k,h=>by
  rw [KA];split
  · omega
  · exact Zb lv t n (k+1) (by omega)
theorem qT (lv:Nat) (t:Str):opR lv t≤8:=Zb lv t 8 1 (by omega)
theorem Zc {lv:Nat} {t:Str}:∀ {n k:Nat},KA lv t n k≠0→∃x,x≠[]∧(t==x)=true
 |0,k,h=>by rw [KA] at h;exact absurd rfl h
 |n+1,k,h=>by
  rw [KA] at h;split at h
  · rename_i hh
    refine ⟨_,?_,hh.2⟩
    unfold opT Uh
    split<;>simp
  · exact Zc h
theorem hZ {lv:Nat} {t:Str} (h:opR lv t≠0):∃x,x≠[]∧(t==x)=true:=Zc h
theorem uS {E:PM Ex} {n:Nat} {a:Ex} {s:PSt} (hc:opR 3 s.hd.text≠0):(Jn E (n+1) a).run s=(Jn E n (H3 ((opR 3 s.hd.text:Nat):Int) a ((Qe E).run s.adv).1)).run ((Qe E).run s.adv).2:=by
 rw [Jn]
 simp only [HP,run_bind]
 rw [AAF] at hc ⊢
 cases h0:s.hd.text==[42] with
 |true=>simp
 |false=>
 cases h1:s.hd.text==[47] with
 |true=>simp
 |false=>
 cases h2:s.hd.text==[37] with
 |true=>simp
 |false=>
 simp [h0,h1,h2] at hc
theorem uR {E:PM Ex} {n:Nat} {a:Ex} {s:PSt} (hc:opR 3 s.hd.text=0):(Jn E (n+1) a).run s=(a,s):=by
 rw [Jn]
 simp only [HP,run_pure]
 rw [AAF] at hc
 cases h0:s.hd.text==[42] with
 |true=>simp [h0] at hc
 |false=>
 cases h1:s.hd.text==[47] with
 |true=>simp [h0,h1] at hc
 |false=>
 cases h2:s.hd.text==[37] with
 |true=>simp [h0,h1,h2] at hc
 |false=>
 simp
set_option maxHeartbeats 2000000 in
theorem kJ (i:Nat) {L:List Tok} (hN:NOk L) (n:Nat) {E:PM Ex} (hE:PC 131 [.gp i 0] i L n E exA):PC 197 [.gp i 0] i L (n+1) (Lu E) exA:=by
 intro σ s0 g0 h0 l0 b0
 refine Re (by simp) ?_
 rw [BB]
 simp only [Lu,run_bind]
 (have c0:=(oL i hN n hE) σ s0 g0 h0 (by omega) b0;have h1:=h0.run (Qe E);have l1:=PM.le (Qe E) h0.wf;generalize (Qe E).run s0=y at c0 h1 l1 ⊢;obtain ⟨x0,s1⟩:=y;simp only at c0 h1 l1 ⊢;have b1:(σ.AK i (psA L s1)).blk i=some (psA L s1):=(by rw [AO,if_pos rfl]);obtain ⟨o0,n0,u0,ns0,ks0,al0⟩:=x0;simp only [exA,Ex.A2,AF,AI] at c0 ⊢)
 have c1:=Kx h1 3 (σ.AK i (psA L s1)) b1
 rw [A1] at c1
 (repeat' (first|refine Run.ct rfl ?_|((first|refine Run.reg mixed ?_|refine Run.AL ?_|(refine AH.upd c0 ?_)|(refine AH.upd c1 ?_)|(refine AR rfl (fun h=>?_) (fun h=>?_)<;>try (cases h;done)))<;>try simp -implicitDefEqProofs only [go_sem])|(refine ⟨fun h=>?_,fun h=>?_⟩<;>first|(cases h;done)|try simp only [h])|fail))
 rw [PV]
 refine Run.Bb ?_
 have hf0:=FZ
 have hl0:=h0.suf.length_le
 have hl1:=h0.len
 refine Run.Bh (α:=PSt×Ex×Nat) (fun y=>put 0 (.gp i 0) (put 2 (.lp 2 0) (put 3 (.lp 3 0) (put 4 (.d (.int .i64 ((opR 3 y.1.hd.text:Nat):Int))) U)))) (fun y=>B4 2 [.d (.int .i64 0),.d (.str []),.d (.int .i64 0),.AX,.AX,.AX] (B4 3 (exC y.2.1) Ab.E)) (fun y=>if opR 3 y.1.hd.text=0 then σ.AK i (psA L y.1) else σ.AK i (psA L y.1.adv)) (fun y=>POk L y.1∧y.1.r.length≤n+1∧y.1.r.length≤y.2.2∧(Jn E y.2.2 y.2.1).run y.1=(Jn E BF (Ex.mk o0 n0 u0 ns0 ks0 al0)).run s1) (fun y=>y.1.r.length) ?_ (s1,(Ex.mk o0 n0 u0 ns0 ks0 al0),BF) ⟨h1,by simp only;omega,by simp only;omega,rfl⟩
 rintro ⟨s2,a,q⟩ ⟨p1,p2,p3,p4⟩ ih
 simp only at p1 p2 p3 p4
 have b2:(σ.AK i (psA L s2)).blk i=some (psA L s2):=(by rw [AO,if_pos rfl])
 obtain ⟨q,rfl⟩:∃m,q=m+1:=⟨q - 1,by have:=Ar.2 p1.wf.ne;omega⟩
 obtain ⟨o,nm,u,ns,ks,al⟩:=a
 simp only [← PV]
 by_cases hc:opR 3 s2.hd.text=0
 · rw [uR hc] at p4
   rw [← p4]
   have hne:(((opR 3 s2.hd.text:Nat):Int) != 0)=false:=by rw [hc];rfl
   simp only [exA,exN,Ex.A2,AF,AI,if_pos hc]
   (repeat' (first|refine Run.ct rfl ?_|((first|refine Run.reg mixed ?_|refine Run.AL ?_|refine Run.Ad Kq (AN.le_refl _) ?_|(refine AR rfl (fun h=>?_) (fun h=>?_)<;>try (cases h;done)))<;>try simp -implicitDefEqProofs only [hne,go_sem])|(refine ⟨fun h=>?_,fun h=>?_⟩<;>first|(cases h;done)|try simp only [h])|fail))
 · rw [uS hc] at p4
   have hne:(((opR 3 s2.hd.text:Nat):Int) != 0)=true:=by simp;exact hc
   simp only [if_neg hc]
   have h3:POk L s2.adv:=by
    rcases (hZ hc) with ⟨t,ht,he⟩
    exact p1.adv ht he
   have l3:=BT p1.wf
   have hop:=qT 3 s2.hd.text
   generalize opR 3 s2.hd.text=w at p4 hne hop ⊢
   generalize s2.adv=s3 at p4 h3 l3 ⊢
   have b3:(σ.AK i (psA L s3)).blk i=some (psA L s3):=(by rw [AO,if_pos rfl])
   (have c3:=(oL i hN n hE) (σ.AK i (psA L s3)) s3 g0 h3 (by omega) b3;rw [A1] at c3;have h4:=h3.run (Qe E);have l4:=PM.le (Qe E) h3.wf;generalize (Qe E).run s3=y at c3 h4 l4 p4 ⊢;obtain ⟨x3,s4⟩:=y;simp only at c3 h4 l4 p4 ⊢;have b4:(σ.AK i (psA L s4)).blk i=some (psA L s4):=(by rw [AO,if_pos rfl]);obtain ⟨o3,n3,u3,ns3,ks3,al3⟩:=x3;simp only [exA,Ex.A2,AF,AI] at c3 ⊢)
   have c4:=Uz (w:Int) (.mk o nm u ns ks al) (Ex.mk o3 n3 u3 ns3 ks3 al3) (σ.AK i (psA L s4))
   simp only [exA,Ex.A2,H3,exN,AF,AI] at c4
   have c5:=Kx h4 3 (σ.AK i (psA L s4)) b4
   rw [A1] at c5
   (repeat' (first|refine Run.ct rfl ?_|((first|refine Run.reg mixed ?_|refine Run.AL ?_|(refine AH.upd c3 ?_)|(refine AH.upd c5 ?_)|refine AH.det (c4) ?_|(refine AR rfl (fun h=>?_) (fun h=>?_)<;>try (cases h;done)))<;>try simp -implicitDefEqProofs only [hne,go_sem])|(refine ⟨fun h=>?_,fun h=>?_⟩<;>first|(cases h;done)|try simp only [h])|fail))
   have hx:=PV 13 [] (w:Int) [] [.mk o nm u ns ks al,(Ex.mk o3 n3 u3 ns3 ks3 al3)] []
   simp only [Ex.A2,AF,AI] at hx
   rw [hx]
   exact ih (s4,H3 (w:Int) (.mk o nm u ns ks al) (Ex.mk o3 n3 u3 ns3 ks3 al3),q) ⟨h4,by simp only;omega,by simp only;omega,p4⟩ (by simp only;omega)
theorem yT {E:PM Ex} {n:Nat} {a:Ex} {s:PSt} (hc:opR 2 s.hd.text≠0):(Sv E (n+1) a).run s=(Sv E n (H3 ((opR 2 s.hd.text:Nat):Int) a ((Lu E).run s.adv).1)).run ((Lu E).run s.adv).2:=by
 rw [Sv]
 simp only [HP,run_bind]
 rw [AAE] at hc ⊢
 cases h0:s.hd.text==[43] with
 |true=>simp
 |false=>
 cases h1:s.hd.text==[45] with
 |true=>simp
 |false=>
 simp [h0,h1] at hc
theorem yS {E:PM Ex} {n:Nat} {a:Ex} {s:PSt} (hc:opR 2 s.hd.text=0):(Sv E (n+1) a).run s=(a,s):=by
 rw [Sv]
 simp only [HP,run_pure]
 rw [AAE] at hc
 cases h0:s.hd.text==[43] with
 |true=>simp [h0] at hc
 |false=>
 cases h1:s.hd.text==[45] with
 |true=>simp [h0,h1] at hc
 |false=>
 simp
set_option maxHeartbeats 2000000 in
theorem rZ (i:Nat) {L:List Tok} (hN:NOk L) (n:Nat) {E:PM Ex} (hE:PC 131 [.gp i 0] i L n E exA):PC 186 [.gp i 0] i L (n+1) (Ky E) exA:=by
 intro σ s0 g0 h0 l0 b0
 refine Sl (by simp) ?_
 rw [BB]
 simp only [Ky,run_bind]
 (have c0:=(kJ i hN n hE) σ s0 g0 h0 (by omega) b0;have h1:=h0.run (Lu E);have l1:=PM.le (Lu E) h0.wf;generalize (Lu E).run s0=y at c0 h1 l1 ⊢;obtain ⟨x0,s1⟩:=y;simp only at c0 h1 l1 ⊢;have b1:(σ.AK i (psA L s1)).blk i=some (psA L s1):=(by rw [AO,if_pos rfl]);obtain ⟨o0,n0,u0,ns0,ks0,al0⟩:=x0;simp only [exA,Ex.A2,AF,AI] at c0 ⊢)
 have c1:=Kx h1 2 (σ.AK i (psA L s1)) b1
 rw [A1] at c1
 (repeat' (first|refine Run.ct rfl ?_|((first|refine Run.reg mixed ?_|refine Run.AL ?_|(refine AH.upd c0 ?_)|(refine AH.upd c1 ?_)|(refine AR rfl (fun h=>?_) (fun h=>?_)<;>try (cases h;done)))<;>try simp -implicitDefEqProofs only [go_sem])|(refine ⟨fun h=>?_,fun h=>?_⟩<;>first|(cases h;done)|try simp only [h])|fail))
 rw [PV]
 refine Run.Bb ?_
 have hf0:=FZ
 have hl0:=h0.suf.length_le
 have hl1:=h0.len
 refine Run.Bh (α:=PSt×Ex×Nat) (fun y=>put 0 (.gp i 0) (put 2 (.lp 2 0) (put 3 (.lp 3 0) (put 4 (.d (.int .i64 ((opR 2 y.1.hd.text:Nat):Int))) U)))) (fun y=>B4 2 [.d (.int .i64 0),.d (.str []),.d (.int .i64 0),.AX,.AX,.AX] (B4 3 (exC y.2.1) Ab.E)) (fun y=>if opR 2 y.1.hd.text=0 then σ.AK i (psA L y.1) else σ.AK i (psA L y.1.adv)) (fun y=>POk L y.1∧y.1.r.length≤n+1∧y.1.r.length≤y.2.2∧(Sv E y.2.2 y.2.1).run y.1=(Sv E BF (Ex.mk o0 n0 u0 ns0 ks0 al0)).run s1) (fun y=>y.1.r.length) ?_ (s1,(Ex.mk o0 n0 u0 ns0 ks0 al0),BF) ⟨h1,by simp only;omega,by simp only;omega,rfl⟩
 rintro ⟨s2,a,q⟩ ⟨p1,p2,p3,p4⟩ ih
 simp only at p1 p2 p3 p4
 have b2:(σ.AK i (psA L s2)).blk i=some (psA L s2):=(by rw [AO,if_pos rfl])
 obtain ⟨q,rfl⟩:∃m,q=m+1:=⟨q - 1,by have:=Ar.2 p1.wf.ne;omega⟩
 obtain ⟨o,nm,u,ns,ks,al⟩:=a
 simp only [← PV]
 by_cases hc:opR 2 s2.hd.text=0
 · rw [yS hc] at p4
   rw [← p4]
   have hne:(((opR 2 s2.hd.text:Nat):Int) != 0)=false:=by rw [hc];rfl
   simp only [exA,exN,Ex.A2,AF,AI,if_pos hc]
   (repeat' (first|refine Run.ct rfl ?_|((first|refine Run.reg mixed ?_|refine Run.AL ?_|refine Run.Ad Lt (AN.le_refl _) ?_|(refine AR rfl (fun h=>?_) (fun h=>?_)<;>try (cases h;done)))<;>try simp -implicitDefEqProofs only [hne,go_sem])|(refine ⟨fun h=>?_,fun h=>?_⟩<;>first|(cases h;done)|try simp only [h])|fail))
 · rw [yT hc] at p4
   have hne:(((opR 2 s2.hd.text:Nat):Int) != 0)=true:=by simp;exact hc
   simp only [if_neg hc]
   have h3:POk L s2.adv:=by
    rcases (hZ hc) with ⟨t,ht,he⟩
    exact p1.adv ht he
   have l3:=BT p1.wf
   have hop:=qT 2 s2.hd.text
   generalize opR 2 s2.hd.text=w at p4 hne hop ⊢
   generalize s2.adv=s3 at p4 h3 l3 ⊢
   have b3:(σ.AK i (psA L s3)).blk i=some (psA L s3):=(by rw [AO,if_pos rfl])
   (have c3:=(kJ i hN n hE) (σ.AK i (psA L s3)) s3 g0 h3 (by omega) b3;rw [A1] at c3;have h4:=h3.run (Lu E);have l4:=PM.le (Lu E) h3.wf;generalize (Lu E).run s3=y at c3 h4 l4 p4 ⊢;obtain ⟨x3,s4⟩:=y;simp only at c3 h4 l4 p4 ⊢;have b4:(σ.AK i (psA L s4)).blk i=some (psA L s4):=(by rw [AO,if_pos rfl]);obtain ⟨o3,n3,u3,ns3,ks3,al3⟩:=x3;simp only [exA,Ex.A2,AF,AI] at c3 ⊢)
   have c4:=Uz (w:Int) (.mk o nm u ns ks al) (Ex.mk o3 n3 u3 ns3 ks3 al3) (σ.AK i (psA L s4))
   simp only [exA,Ex.A2,H3,exN,AF,AI] at c4
   have c5:=Kx h4 2 (σ.AK i (psA L s4)) b4
   rw [A1] at c5
   (repeat' (first|refine Run.ct rfl ?_|((first|refine Run.reg mixed ?_|refine Run.AL ?_|(refine AH.upd c3 ?_)|(refine AH.upd c5 ?_)|refine AH.det (c4) ?_|(refine AR rfl (fun h=>?_) (fun h=>?_)<;>try (cases h;done)))<;>try simp -implicitDefEqProofs only [hne,go_sem])|(refine ⟨fun h=>?_,fun h=>?_⟩<;>first|(cases h;done)|try simp only [h])|fail))
   have hx:=PV 13 [] (w:Int) [] [.mk o nm u ns ks al,(Ex.mk o3 n3 u3 ns3 ks3 al3)] []
   simp only [Ex.A2,AF,AI] at hx
   rw [hx]
   exact ih (s4,H3 (w:Int) (.mk o nm u ns ks al) (Ex.mk o3 n3 u3 ns3 ks3 al3),q) ⟨h4,by simp only;omega,by simp only;omega,p4⟩ (by simp only;omega)
end Go.Ab
namespace Go.Ab
open Go.Proofs
theorem Run.yM {cx:Cx} {KK:AV→AN→Prop} {k:List CI} {F:Fm} {q0 q:Nat} {A cs:List AV} {σ σ':AN} (hσ:σ'.le σ) (h:Run cx KK k F (B4 q0 A (B4 q (AV.Ey cs) E)) σ'):Run cx KK k F (B4 q0 A (B4 q cs E)) σ:=by
 refine Run.jD (σ':=σ') (fun _=>.inl rfl) (fun _ _ h=>h) hσ (Run.qV (fun q' cs' hq=>?_) h)
 by_cases e2:q'=q0
 · subst e2
   have:cs'=A:=by simpa [B4] using hq.symm
   exact ⟨A,by simp [B4],.inl this⟩
 · by_cases e3:q'=q
   · subst e3
     have:cs'=AV.Ey cs:=by simpa [B4,e2] using hq.symm
     exact ⟨cs,by simp [B4,e2],.inr this⟩
   · simp [B4,e2,e3,E] at hq
theorem aI:Ap Tryz.prog 172=true:=by kernel_rfl
theorem aJ:Ap Tryz.prog 126=true:=by kernel_rfl
theorem xU:Ap Tryz.prog 171=true:=by kernel_rfl
theorem xV:Ap Tryz.prog 129=true:=by kernel_rfl
theorem o9 (E:PM Ex) (s:PSt):(Vu E).run s=if opR 1 ((Ky E).run s).2.hd.text=0 then (Ky E).run s else (H3 ((opR 1 ((Ky E).run s).2.hd.text:Nat):Int) ((Ky E).run s).1 ((Ky E).run ((Ky E).run s).2.adv).1,((Ky E).run ((Ky E).run s).2.adv).2):=by
 simp only [Vu,run_bind,HP,run_pure]
 generalize (Ky E).run s=y
 obtain ⟨a,s1⟩:=y
 simp only
 rw [AA4]
 cases h0:s1.hd.text==[60] with
 |true=>simp
 |false=>
 cases h1:s1.hd.text==[60,61] with
 |true=>simp
 |false=>
 cases h2:s1.hd.text==[61,61] with
 |true=>simp
 |false=>simp
theorem sP (i:Nat) {L:List Tok} (hN:NOk L) (n:Nat) {E:PM Ex} (hE:PC 131 [.gp i 0] i L n E exA):PC 173 [.gp i 0] i L (n+1) (Vu E) exA:=by
 intro σ s0 g0 h0 l0 b0
 refine R6 (by simp) ?_
 rw [BB,o9]
 (have c0:=(rZ i hN n hE) σ s0 g0 h0 (by omega) b0;have h1:=h0.run (Ky E);have l1:=PM.le (Ky E) h0.wf;generalize (Ky E).run s0=y at c0 h1 l1 ⊢;obtain ⟨x0,s1⟩:=y;simp only at c0 h1 l1 ⊢;have b1:(σ.AK i (psA L s1)).blk i=some (psA L s1):=(by rw [AO,if_pos rfl]);obtain ⟨o0,n0,u0,ns0,ks0,al0⟩:=x0;simp only [exA,Ex.A2,AF,AI] at c0 ⊢)
 have c1:=Kx h1 1 (σ.AK i (psA L s1)) b1
 rw [A1] at c1
 by_cases hc:opR 1 s1.hd.text=0
 · have hne:(((opR 1 s1.hd.text:Nat):Int) != 0)=false:=by rw [hc];rfl
   rw [if_pos hc] at c1 ⊢
   simp only [exA,exN,Ex.A2,AF,AI]
   (repeat' (first|refine Run.ct rfl ?_|((first|refine Run.reg mixed ?_|refine Run.AL ?_|refine Run.Ad Gw (AN.le_refl _) ?_|(refine AH.upd c0 ?_)|(refine AH.upd c1 ?_)|(refine AR rfl (fun h=>?_) (fun h=>?_)<;>try (cases h;done)))<;>try simp -implicitDefEqProofs only [hne,go_sem])|(refine ⟨fun h=>?_,fun h=>?_⟩<;>first|(cases h;done)|try simp only [h])|fail))
 · have hne:(((opR 1 s1.hd.text:Nat):Int) != 0)=true:=by simp;exact hc
   rw [if_neg hc] at c1 ⊢
   have h2:POk L s1.adv:=by
    rcases (hZ hc) with ⟨t,ht,he⟩
    exact h1.adv ht he
   have l2:=BT h1.wf
   generalize opR 1 s1.hd.text=w at c1 hne ⊢
   generalize s1.adv=s2 at c1 h2 l2 ⊢
   have b2:(σ.AK i (psA L s2)).blk i=some (psA L s2):=(by rw [AO,if_pos rfl])
   (have c2:=(rZ i hN n hE) (σ.AK i (psA L s2)) s2 g0 h2 (by omega) b2;rw [A1] at c2;have h3:=h2.run (Ky E);have l3:=PM.le (Ky E) h2.wf;generalize (Ky E).run s2=y at c2 h3 l3 ⊢;obtain ⟨x2,s3⟩:=y;simp only at c2 h3 l3 ⊢;have b3:(σ.AK i (psA L s3)).blk i=some (psA L s3):=(by rw [AO,if_pos rfl]);obtain ⟨o2,n2,u2,ns2,ks2,al2⟩:=x2;simp only [exA,Ex.A2,AF,AI] at c2 ⊢)
   have c4:=Uz (w:Int) (Ex.mk o0 n0 u0 ns0 ks0 al0) (Ex.mk o2 n2 u2 ns2 ks2 al2) (σ.AK i (psA L s3))
   simp only [exA,Ex.A2,H3,exN,AF,AI] at c4 ⊢
   (repeat' (first|refine Run.ct rfl ?_|((first|refine Run.reg mixed ?_|refine Run.AL ?_|refine Run.Ad Gw (AN.le_refl _) ?_|(refine AH.upd c0 ?_)|(refine AH.upd c1 ?_)|(refine AH.upd c2 ?_)|refine AH.det (c4) ?_|(refine AR rfl (fun h=>?_) (fun h=>?_)<;>try (cases h;done)))<;>try simp -implicitDefEqProofs only [hne,go_sem])|(refine ⟨fun h=>?_,fun h=>?_⟩<;>first|(cases h;done)|try simp only [h])|fail))
set_option maxHeartbeats 2000000 in
theorem yA (i:Nat) (L:List Tok) (n:Nat) {E:PM Ex} (hE:PC 131 [.gp i 0] i L n E exA):PC 169 [.gp i 0] i L n (dU E) exA:=by
 intro σ s0 g0 h0 l0 b0
 refine Sk (by simp) ?_
 rw [BB]
 simp only [dU,HP]
 cases t0:s0.hd.text==[40] with
 |true=>
  simp only [if_true,run_bind,run_pure,exA,exN,Ex.A2,AF,AI]
  (have c0:=Cz h0 [40] σ b0 t0;have h1:=h0.adv (t:=[40]) (by decide) t0;have l1:=BT h0.wf;generalize s0.adv=s1 at c0 h1 l1 ⊢;have b1:(σ.AK i (psA L s1)).blk i=some (psA L s1):=by rw [AO,if_pos rfl])
  (have c1:=(SW i L n) (σ.AK i (psA L s1)) s1 g0 h1 (by omega) b1;rw [A1] at c1;have h2:=h1.run (GN);have l2:=PM.le (GN) h1.wf;generalize (GN).run s1=y at c1 h2 l2 ⊢;obtain ⟨x1,s2⟩:=y;simp only at c1 h2 l2 ⊢;have b2:(σ.AK i (psA L s2)).blk i=some (psA L s2):=(by rw [AO,if_pos rfl]))
  (have c2:=(DA i L n [44] (by decide)) (σ.AK i (psA L s2)) s2 g0 h2 (by omega) b2;rw [A1] at c2;have h3:=h2.run (PM.exp [44] (by decide));have l3:=PM.le (PM.exp [44] (by decide)) h2.wf;generalize (PM.exp [44] (by decide)).run s2=y at c2 h3 l3 ⊢;obtain ⟨x2,s3⟩:=y;simp only at c2 h3 l3 ⊢;have b3:(σ.AK i (psA L s3)).blk i=some (psA L s3):=(by rw [AO,if_pos rfl]))
  (have d3:=fun tk:Nat=>(HO i L n aI (SW i L n)).pc ((σ.AK i (psA L s3)).DX tk) s3 g0 h3 (by omega) (by rw [Ft];exact b3);have c3:=(HO i L n aI (SW i L n)).pc (σ.AK i (psA L s3)) s3 g0 h3 (by omega) b3;rw [A1] at c3;have h4:=h3.run (listed GN);have l4:=PM.le (listed GN) h3.wf;have n3:=Pm (read:=GN) h3.wf;generalize (listed GN).run s3=y at c3 d3 h4 l4 n3 ⊢;obtain ⟨x3,s4⟩:=y;simp only at c3 d3 h4 l4 n3 ⊢;have q3:=h0.suf.length_le;have q3':=h0.len)
  have b4:(σ.AK i (psA L s4)).blk i=some (psA L s4):=(by rw [AO,if_pos rfl])
  (have c4:=(DA i L n [61] (by decide)) (σ.AK i (psA L s4)) s4 g0 h4 (by omega) b4;rw [A1] at c4;have h5:=h4.run (PM.exp [61] (by decide));have l5:=PM.le (PM.exp [61] (by decide)) h4.wf;generalize (PM.exp [61] (by decide)).run s4=y at c4 h5 l5 ⊢;obtain ⟨x4,s5⟩:=y;simp only at c4 h5 l5 ⊢;have b5:(σ.AK i (psA L s5)).blk i=some (psA L s5):=(by rw [AO,if_pos rfl]))
  (have c5:=hE (σ.AK i (psA L s5)) s5 g0 h5 (by omega) b5;rw [A1] at c5;have h6:=h5.run (E);have l6:=PM.le (E) h5.wf;generalize (E).run s5=y at c5 h6 l6 ⊢;obtain ⟨x5,s6⟩:=y;simp only at c5 h6 l6 ⊢;have b6:(σ.AK i (psA L s6)).blk i=some (psA L s6):=(by rw [AO,if_pos rfl]);obtain ⟨o5,n5,u5,ns5,ks5,al5⟩:=x5;simp only [exA,Ex.A2,AF,AI] at c5 ⊢)
  (have c6:=(DA i L n [105,110] (by decide)) (σ.AK i (psA L s6)) s6 g0 h6 (by omega) b6;rw [A1] at c6;have h7:=h6.run (PM.exp [105,110] (by decide));have l7:=PM.le (PM.exp [105,110] (by decide)) h6.wf;generalize (PM.exp [105,110] (by decide)).run s6=y at c6 h7 l7 ⊢;obtain ⟨x6,s7⟩:=y;simp only at c6 h7 l7 ⊢;have b7:(σ.AK i (psA L s7)).blk i=some (psA L s7):=(by rw [AO,if_pos rfl]))
  (have c7:=hE (σ.AK i (psA L s7)) s7 g0 h7 (by omega) b7;rw [A1] at c7;have h8:=h7.run (E);have l8:=PM.le (E) h7.wf;generalize (E).run s7=y at c7 h8 l8 ⊢;obtain ⟨x7,s8⟩:=y;simp only at c7 h8 l8 ⊢;have b8:(σ.AK i (psA L s8)).blk i=some (psA L s8):=(by rw [AO,if_pos rfl]);obtain ⟨o7,n7,u7,ns7,ks7,al7⟩:=x7;simp only [exA,Ex.A2,AF,AI] at c7 ⊢)
  (repeat' (first|refine Run.ct rfl ?_|((first|refine Run.reg mixed ?_|refine Run.AL ?_|(refine AH.upd c0 ?_)|(refine AH.upd c1 ?_)|(refine AH.upd c2 ?_)|(refine AR rfl (fun h=>?_) (fun h=>?_)<;>try (cases h;done)))<;>try simp -implicitDefEqProofs only [go_sem])|(refine ⟨fun h=>?_,fun h=>?_⟩<;>first|(cases h;done)|try simp only [h])|fail))
  refine IJ.own rfl (by decide) (fun tk htk=>?_);simp -implicitDefEqProofs only [go_sem]
  refine AH.upd (d3 tk) ?_;simp -implicitDefEqProofs only [go_sem]
  (apply LS.tok (LS.tV htk s4);rfl;exact (Mx _ _ (fun _=>rfl));(simp only [AE,AD,AG];omega);decide;intro v2 τ2 ho);simp -implicitDefEqProofs only [ho.own.BQ,ho.own.At,ho.own.cells,ho.own.cell,ho.own.plain,ho.own.dv,if_true,go_sem]
  refine Run.yM ho.le ?_
  simp only [AV.Ey,AV.plain,ho.own.plain]
  (repeat' (first|refine Run.ct rfl ?_|((first|refine Run.reg mixed ?_|refine Run.AL ?_|refine Run.Ad H4 (AN.le_refl _) ?_|(refine AH.upd c4 ?_)|(refine AH.upd c5 ?_)|(refine AH.upd c6 ?_)|(refine AH.upd c7 ?_)|(refine AR rfl (fun h=>?_) (fun h=>?_)<;>try (cases h;done)))<;>try simp -implicitDefEqProofs only [go_sem])|(refine ⟨fun h=>?_,fun h=>?_⟩<;>first|(cases h;done)|try simp only [h])|fail))
  rfl
 |false=>
  have f0:=Cy h0 _ σ b0 t0
  simp only [if_false,AU,run_bind,run_pure,exA,exN,Ex.A2,AF,AI]
  (have c0:=(SW i L n) σ s0 g0 h0 (by omega) b0;have h1:=h0.run (GN);have l1:=PM.le (GN) h0.wf;generalize (GN).run s0=y at c0 h1 l1 ⊢;obtain ⟨x0,s1⟩:=y;simp only at c0 h1 l1 ⊢;have b1:(σ.AK i (psA L s1)).blk i=some (psA L s1):=(by rw [AO,if_pos rfl]))
  (have c1:=(DA i L n [61] (by decide)) (σ.AK i (psA L s1)) s1 g0 h1 (by omega) b1;rw [A1] at c1;have h2:=h1.run (PM.exp [61] (by decide));have l2:=PM.le (PM.exp [61] (by decide)) h1.wf;generalize (PM.exp [61] (by decide)).run s1=y at c1 h2 l2 ⊢;obtain ⟨x1,s2⟩:=y;simp only at c1 h2 l2 ⊢;have b2:(σ.AK i (psA L s2)).blk i=some (psA L s2):=(by rw [AO,if_pos rfl]))
  (have c2:=hE (σ.AK i (psA L s2)) s2 g0 h2 (by omega) b2;rw [A1] at c2;have h3:=h2.run (E);have l3:=PM.le (E) h2.wf;generalize (E).run s2=y at c2 h3 l3 ⊢;obtain ⟨x2,s3⟩:=y;simp only at c2 h3 l3 ⊢;have b3:(σ.AK i (psA L s3)).blk i=some (psA L s3):=(by rw [AO,if_pos rfl]);obtain ⟨o2,n2,u2,ns2,ks2,al2⟩:=x2;simp only [exA,Ex.A2,AF,AI] at c2 ⊢)
  (have c3:=(DA i L n [105,110] (by decide)) (σ.AK i (psA L s3)) s3 g0 h3 (by omega) b3;rw [A1] at c3;have h4:=h3.run (PM.exp [105,110] (by decide));have l4:=PM.le (PM.exp [105,110] (by decide)) h3.wf;generalize (PM.exp [105,110] (by decide)).run s3=y at c3 h4 l4 ⊢;obtain ⟨x3,s4⟩:=y;simp only at c3 h4 l4 ⊢;have b4:(σ.AK i (psA L s4)).blk i=some (psA L s4):=(by rw [AO,if_pos rfl]))
  (have c4:=hE (σ.AK i (psA L s4)) s4 g0 h4 (by omega) b4;rw [A1] at c4;have h5:=h4.run (E);have l5:=PM.le (E) h4.wf;generalize (E).run s4=y at c4 h5 l5 ⊢;obtain ⟨x4,s5⟩:=y;simp only at c4 h5 l5 ⊢;have b5:(σ.AK i (psA L s5)).blk i=some (psA L s5):=(by rw [AO,if_pos rfl]);obtain ⟨o4,n4,u4,ns4,ks4,al4⟩:=x4;simp only [exA,Ex.A2,AF,AI] at c4 ⊢)
  (repeat' (first|refine Run.ct rfl ?_|((first|refine Run.reg mixed ?_|refine Run.AL ?_|refine Run.Ad H4 (AN.le_refl _) ?_|(refine AH.upd c0 ?_)|(refine AH.upd c1 ?_)|(refine AH.upd c2 ?_)|(refine AH.upd c3 ?_)|(refine AH.upd c4 ?_)|refine AH.det (f0) ?_|(refine AR rfl (fun h=>?_) (fun h=>?_)<;>try (cases h;done)))<;>try simp -implicitDefEqProofs only [go_sem])|(refine ⟨fun h=>?_,fun h=>?_⟩<;>first|(cases h;done)|try simp only [h])|fail))
theorem w5 (i:Nat) (L:List Tok) (n:Nat) {E:PM Ex} (hE:PC 131 [.gp i 0] i L n E exA):PC 171 [.gp i 0] i L n (iA E) alA:=by
 intro σ s0 g0 h0 l0 b0
 refine Sg (by simp) ?_
 rw [BB]
 simp only [iA,run_bind,run_pure]
 (have c0:=(SO i L n) σ s0 g0 h0 (by omega) b0;have h1:=h0.run (FM);have l1:=PM.le (FM) h0.wf;generalize (FM).run s0=y at c0 h1 l1 ⊢;obtain ⟨x0,s1⟩:=y;simp only at c0 h1 l1 ⊢;have b1:(σ.AK i (psA L s1)).blk i=some (psA L s1):=(by rw [AO,if_pos rfl]))
 (have c1:=((Od i L n aI (SW i L n)).pc.mono (Nat.le_succ n)) (σ.AK i (psA L s1)) s1 g0 h1 (by omega) b1;rw [A1] at c1;have h2:=h1.run (IH GN);have l2:=PM.le (IH GN) h1.wf;generalize (IH GN).run s1=y at c1 h2 l2 ⊢;obtain ⟨x1,s2⟩:=y;simp only at c1 h2 l2 ⊢;have b2:(σ.AK i (psA L s2)).blk i=some (psA L s2):=(by rw [AO,if_pos rfl]))
 (have c2:=(DA i L n [45,62] (by decide)) (σ.AK i (psA L s2)) s2 g0 h2 (by omega) b2;rw [A1] at c2;have h3:=h2.run (PM.exp [45,62] (by decide));have l3:=PM.le (PM.exp [45,62] (by decide)) h2.wf;generalize (PM.exp [45,62] (by decide)).run s2=y at c2 h3 l3 ⊢;obtain ⟨x2,s3⟩:=y;simp only at c2 h3 l3 ⊢;have b3:(σ.AK i (psA L s3)).blk i=some (psA L s3):=(by rw [AO,if_pos rfl]))
 (have c3:=hE (σ.AK i (psA L s3)) s3 g0 h3 (by omega) b3;rw [A1] at c3;have h4:=h3.run (E);have l4:=PM.le (E) h3.wf;generalize (E).run s3=y at c3 h4 l4 ⊢;obtain ⟨x3,s4⟩:=y;simp only at c3 h4 l4 ⊢;have b4:(σ.AK i (psA L s4)).blk i=some (psA L s4):=(by rw [AO,if_pos rfl]);obtain ⟨o3,n3,u3,ns3,ks3,al3⟩:=x3;simp only [exA,Ex.A2,AF,AI] at c3 ⊢)
 simp only [alA,Al.A2,AF,AI]
 (repeat' (first|refine Run.ct rfl ?_|((first|refine Run.reg mixed ?_|refine Run.AL ?_|refine Run.Ad Lo (AN.le_refl _) ?_|(refine AH.upd c0 ?_)|(refine AH.upd c1 ?_)|(refine AH.upd c2 ?_)|(refine AH.upd c3 ?_)|(refine AR rfl (fun h=>?_) (fun h=>?_)<;>try (cases h;done)))<;>try simp -implicitDefEqProofs only [go_sem])|(refine ⟨fun h=>?_,fun h=>?_⟩<;>first|(cases h;done)|try simp only [h])|fail))
set_option maxHeartbeats 4000000 in
theorem jV (i:Nat) {L:List Tok} (hN:NOk L):∀n,PC 131 [.gp i 0] i L n (Bw n) exA
 |0=>fun σ s _ h1 h2 h3=>by have:=Ar.2 h1.wf.ne;omega
 |n+1=>by
  have ih:=jV i hN n
  intro σ s0 g0 h0 l0 b0
  refine R8 (by simp) ?_
  rw [BB,Bw]
  simp only [HP]
  cases t1:s0.hd.text==[108,101,116] with
  |true=>
   simp only [if_true]
   (have c0:=Cz h0 [108,101,116] σ b0 t1;have h1:=h0.adv (t:=[108,101,116]) (by decide) t1;have l1:=BT h0.wf;generalize s0.adv=s1 at c0 h1 l1 ⊢;have b1:(σ.AK i (psA L s1)).blk i=some (psA L s1):=by rw [AO,if_pos rfl])
   (have c1:=(yA i L n ih) (σ.AK i (psA L s1)) s1 g0 h1 (by omega) b1;rw [A1] at c1;have h2:=h1.run (dU (Bw n));have l2:=PM.le (dU (Bw n)) h1.wf;generalize (dU (Bw n)).run s1=y at c1 h2 l2 ⊢;obtain ⟨x1,s2⟩:=y;simp only at c1 h2 l2 ⊢;have b2:(σ.AK i (psA L s2)).blk i=some (psA L s2):=(by rw [AO,if_pos rfl]);obtain ⟨o1,n1,u1,ns1,ks1,al1⟩:=x1;simp only [exA,Ex.A2,AF,AI] at c1 ⊢)
   (repeat' (first|refine Run.ct rfl ?_|((first|refine Run.reg mixed ?_|refine Run.AL ?_|refine Run.Ad CP (AN.le_refl _) ?_|(refine AH.upd c0 ?_)|(refine AH.upd c1 ?_)|(refine AR rfl (fun h=>?_) (fun h=>?_)<;>try (cases h;done)))<;>try simp -implicitDefEqProofs only [go_sem])|(refine ⟨fun h=>?_,fun h=>?_⟩<;>first|(cases h;done)|try simp only [h])|fail))
  |false=>
  have f1:=Cy h0 _ σ b0 t1
  cases t2:s0.hd.text==[105,102] with
  |true=>
   simp only [if_true,if_false,AU,run_bind,run_pure,exA,exN,Ex.A2,AF,AI]
   (have c0:=Cz h0 [105,102] σ b0 t2;have h1:=h0.adv (t:=[105,102]) (by decide) t2;have l1:=BT h0.wf;generalize s0.adv=s1 at c0 h1 l1 ⊢;have b1:(σ.AK i (psA L s1)).blk i=some (psA L s1):=by rw [AO,if_pos rfl])
   (have c1:=ih (σ.AK i (psA L s1)) s1 g0 h1 (by omega) b1;rw [A1] at c1;have h2:=h1.run (Bw n);have l2:=PM.le (Bw n) h1.wf;generalize (Bw n).run s1=y at c1 h2 l2 ⊢;obtain ⟨x1,s2⟩:=y;simp only at c1 h2 l2 ⊢;have b2:(σ.AK i (psA L s2)).blk i=some (psA L s2):=(by rw [AO,if_pos rfl]);obtain ⟨o1,n1,u1,ns1,ks1,al1⟩:=x1;simp only [exA,Ex.A2,AF,AI] at c1 ⊢)
   (have c2:=(DA i L n [116,104,101,110] (by decide)) (σ.AK i (psA L s2)) s2 g0 h2 (by omega) b2;rw [A1] at c2;have h3:=h2.run (PM.exp [116,104,101,110] (by decide));have l3:=PM.le (PM.exp [116,104,101,110] (by decide)) h2.wf;generalize (PM.exp [116,104,101,110] (by decide)).run s2=y at c2 h3 l3 ⊢;obtain ⟨x2,s3⟩:=y;simp only at c2 h3 l3 ⊢;have b3:(σ.AK i (psA L s3)).blk i=some (psA L s3):=(by rw [AO,if_pos rfl]))
   (have c3:=ih (σ.AK i (psA L s3)) s3 g0 h3 (by omega) b3;rw [A1] at c3;have h4:=h3.run (Bw n);have l4:=PM.le (Bw n) h3.wf;generalize (Bw n).run s3=y at c3 h4 l4 ⊢;obtain ⟨x3,s4⟩:=y;simp only at c3 h4 l4 ⊢;have b4:(σ.AK i (psA L s4)).blk i=some (psA L s4):=(by rw [AO,if_pos rfl]);obtain ⟨o3,n3,u3,ns3,ks3,al3⟩:=x3;simp only [exA,Ex.A2,AF,AI] at c3 ⊢)
   (have c4:=(DA i L n [101,108,115,101] (by decide)) (σ.AK i (psA L s4)) s4 g0 h4 (by omega) b4;rw [A1] at c4;have h5:=h4.run (PM.exp [101,108,115,101] (by decide));have l5:=PM.le (PM.exp [101,108,115,101] (by decide)) h4.wf;generalize (PM.exp [101,108,115,101] (by decide)).run s4=y at c4 h5 l5 ⊢;obtain ⟨x4,s5⟩:=y;simp only at c4 h5 l5 ⊢;have b5:(σ.AK i (psA L s5)).blk i=some (psA L s5):=(by rw [AO,if_pos rfl]))
   (have c5:=ih (σ.AK i (psA L s5)) s5 g0 h5 (by omega) b5;rw [A1] at c5;have h6:=h5.run (Bw n);have l6:=PM.le (Bw n) h5.wf;generalize (Bw n).run s5=y at c5 h6 l6 ⊢;obtain ⟨x5,s6⟩:=y;simp only at c5 h6 l6 ⊢;have b6:(σ.AK i (psA L s6)).blk i=some (psA L s6):=(by rw [AO,if_pos rfl]);obtain ⟨o5,n5,u5,ns5,ks5,al5⟩:=x5;simp only [exA,Ex.A2,AF,AI] at c5 ⊢)
   (repeat' (first|refine Run.ct rfl ?_|((first|refine Run.reg mixed ?_|refine Run.AL ?_|refine Run.Ad CP (AN.le_refl _) ?_|(refine AH.upd c0 ?_)|(refine AH.upd c1 ?_)|(refine AH.upd c2 ?_)|(refine AH.upd c3 ?_)|(refine AH.upd c4 ?_)|(refine AH.upd c5 ?_)|refine AH.det (f1) ?_|(refine AR rfl (fun h=>?_) (fun h=>?_)<;>try (cases h;done)))<;>try simp -implicitDefEqProofs only [go_sem])|(refine ⟨fun h=>?_,fun h=>?_⟩<;>first|(cases h;done)|try simp only [h])|fail))
  |false=>
  have f2:=Cy h0 _ σ b0 t2
  cases t3:s0.hd.text==[109,97,116,99,104] with
  |true=>
   simp only [if_true,if_false,AU,run_bind,run_pure,exA,exN,Ex.A2,AF,AI]
   (have c0:=Cz h0 [109,97,116,99,104] σ b0 t3;have h1:=h0.adv (t:=[109,97,116,99,104]) (by decide) t3;have l1:=BT h0.wf;generalize s0.adv=s1 at c0 h1 l1 ⊢;have b1:(σ.AK i (psA L s1)).blk i=some (psA L s1):=by rw [AO,if_pos rfl])
   (have c1:=ih (σ.AK i (psA L s1)) s1 g0 h1 (by omega) b1;rw [A1] at c1;have h2:=h1.run (Bw n);have l2:=PM.le (Bw n) h1.wf;generalize (Bw n).run s1=y at c1 h2 l2 ⊢;obtain ⟨x1,s2⟩:=y;simp only at c1 h2 l2 ⊢;have b2:(σ.AK i (psA L s2)).blk i=some (psA L s2):=(by rw [AO,if_pos rfl]);obtain ⟨o1,n1,u1,ns1,ks1,al1⟩:=x1;simp only [exA,Ex.A2,AF,AI] at c1 ⊢)
   (have c2:=(DA i L n [119,105,116,104] (by decide)) (σ.AK i (psA L s2)) s2 g0 h2 (by omega) b2;rw [A1] at c2;have h3:=h2.run (PM.exp [119,105,116,104] (by decide));have l3:=PM.le (PM.exp [119,105,116,104] (by decide)) h2.wf;generalize (PM.exp [119,105,116,104] (by decide)).run s2=y at c2 h3 l3 ⊢;obtain ⟨x2,s3⟩:=y;simp only at c2 h3 l3 ⊢;have b3:(σ.AK i (psA L s3)).blk i=some (psA L s3):=(by rw [AO,if_pos rfl]))
   (have c3:=(VM i L n xU (w5 i L n ih) [124] (by decide)).pc (σ.AK i (psA L s3)) s3 g0 h3 (by omega) b3;rw [A1] at c3;have h4:=h3.run (items (iA (Bw n)) [124] (by decide));have l4:=PM.le (items (iA (Bw n)) [124] (by decide)) h3.wf;generalize (items (iA (Bw n)) [124] (by decide)).run s3=y at c3 h4 l4 ⊢;obtain ⟨x3,s4⟩:=y;simp only at c3 h4 l4 ⊢;have b4:(σ.AK i (psA L s4)).blk i=some (psA L s4):=(by rw [AO,if_pos rfl]))
   (have c4:=(DA i L n [101,110,100] (by decide)) (σ.AK i (psA L s4)) s4 g0 h4 (by omega) b4;rw [A1] at c4;have h5:=h4.run (PM.exp [101,110,100] (by decide));have l5:=PM.le (PM.exp [101,110,100] (by decide)) h4.wf;generalize (PM.exp [101,110,100] (by decide)).run s4=y at c4 h5 l5 ⊢;obtain ⟨x4,s5⟩:=y;simp only at c4 h5 l5 ⊢;have b5:(σ.AK i (psA L s5)).blk i=some (psA L s5):=(by rw [AO,if_pos rfl]))
   (repeat' (first|refine Run.ct rfl ?_|((first|refine Run.reg mixed ?_|refine Run.AL ?_|refine Run.Ad CP (AN.le_refl _) ?_|(refine AH.upd c0 ?_)|(refine AH.upd c1 ?_)|(refine AH.upd c2 ?_)|(refine AH.upd c3 ?_)|(refine AH.upd c4 ?_)|refine AH.det (f1) ?_|refine AH.det (f2) ?_|(refine AR rfl (fun h=>?_) (fun h=>?_)<;>try (cases h;done)))<;>try simp -implicitDefEqProofs only [go_sem])|(refine ⟨fun h=>?_,fun h=>?_⟩<;>first|(cases h;done)|try simp only [h])|fail))
  |false=>
  have f3:=Cy h0 _ σ b0 t3
  cases t4:s0.hd.text==[102,110] with
  |true=>
   simp only [if_true,if_false,AU,run_bind,run_pure,exA,exN,Ex.A2,AF,AI]
   (have c0:=Cz h0 [102,110] σ b0 t4;have h1:=h0.adv (t:=[102,110]) (by decide) t4;have l1:=BT h0.wf;generalize s0.adv=s1 at c0 h1 l1 ⊢;have b1:(σ.AK i (psA L s1)).blk i=some (psA L s1):=by rw [AO,if_pos rfl])
   (have c1:=(DA i L n [40] (by decide)) (σ.AK i (psA L s1)) s1 g0 h1 (by omega) b1;rw [A1] at c1;have h2:=h1.run (PM.exp [40] (by decide));have l2:=PM.le (PM.exp [40] (by decide)) h1.wf;generalize (PM.exp [40] (by decide)).run s1=y at c1 h2 l2 ⊢;obtain ⟨x1,s2⟩:=y;simp only at c1 h2 l2 ⊢;have b2:(σ.AK i (psA L s2)).blk i=some (psA L s2):=(by rw [AO,if_pos rfl]))
   (have c2:=(OU i L n aJ (Po i L n)).pc (σ.AK i (psA L s2)) s2 g0 h2 (by omega) b2;rw [A1] at c2;have h3:=h2.run (closed F6);have l3:=PM.le (closed F6) h2.wf;generalize (closed F6).run s2=y at c2 h3 l3 ⊢;obtain ⟨x2,s3⟩:=y;simp only at c2 h3 l3 ⊢;have b3:(σ.AK i (psA L s3)).blk i=some (psA L s3):=(by rw [AO,if_pos rfl]))
   (have c3:=(DA i L n [45,62] (by decide)) (σ.AK i (psA L s3)) s3 g0 h3 (by omega) b3;rw [A1] at c3;have h4:=h3.run (PM.exp [45,62] (by decide));have l4:=PM.le (PM.exp [45,62] (by decide)) h3.wf;generalize (PM.exp [45,62] (by decide)).run s3=y at c3 h4 l4 ⊢;obtain ⟨x3,s4⟩:=y;simp only at c3 h4 l4 ⊢;have b4:(σ.AK i (psA L s4)).blk i=some (psA L s4):=(by rw [AO,if_pos rfl]))
   (have c4:=ih (σ.AK i (psA L s4)) s4 g0 h4 (by omega) b4;rw [A1] at c4;have h5:=h4.run (Bw n);have l5:=PM.le (Bw n) h4.wf;generalize (Bw n).run s4=y at c4 h5 l5 ⊢;obtain ⟨x4,s5⟩:=y;simp only at c4 h5 l5 ⊢;have b5:(σ.AK i (psA L s5)).blk i=some (psA L s5):=(by rw [AO,if_pos rfl]);obtain ⟨o4,n4,u4,ns4,ks4,al4⟩:=x4;simp only [exA,Ex.A2,AF,AI] at c4 ⊢)
   (repeat' (first|refine Run.ct rfl ?_|((first|refine Run.reg mixed ?_|refine Run.AL ?_|refine Run.Ad CP (AN.le_refl _) ?_|(refine AH.upd c0 ?_)|(refine AH.upd c1 ?_)|(refine AH.upd c2 ?_)|(refine AH.upd c3 ?_)|(refine AH.upd c4 ?_)|refine AH.det (f1) ?_|refine AH.det (f2) ?_|refine AH.det (f3) ?_|(refine AR rfl (fun h=>?_) (fun h=>?_)<;>try (cases h;done)))<;>try simp -implicitDefEqProofs only [go_sem])|(refine ⟨fun h=>?_,fun h=>?_⟩<;>first|(cases h;done)|try simp only [h])|fail))
  |false=>
  have f4:=Cy h0 _ σ b0 t4
  cases t5:s0.hd.text==[116,114,121] with
  |true=>
   simp only [if_true,if_false,AU,run_bind,run_pure,exA,exN,Ex.A2,AF,AI]
   (have c0:=Cz h0 [116,114,121] σ b0 t5;have h1:=h0.adv (t:=[116,114,121]) (by decide) t5;have l1:=BT h0.wf;generalize s0.adv=s1 at c0 h1 l1 ⊢;have b1:(σ.AK i (psA L s1)).blk i=some (psA L s1):=by rw [AO,if_pos rfl])
   (have c1:=ih (σ.AK i (psA L s1)) s1 g0 h1 (by omega) b1;rw [A1] at c1;have h2:=h1.run (Bw n);have l2:=PM.le (Bw n) h1.wf;generalize (Bw n).run s1=y at c1 h2 l2 ⊢;obtain ⟨x1,s2⟩:=y;simp only at c1 h2 l2 ⊢;have b2:(σ.AK i (psA L s2)).blk i=some (psA L s2):=(by rw [AO,if_pos rfl]);obtain ⟨o1,n1,u1,ns1,ks1,al1⟩:=x1;simp only [exA,Ex.A2,AF,AI] at c1 ⊢)
   (have c2:=(DA i L n [99,97,116,99,104] (by decide)) (σ.AK i (psA L s2)) s2 g0 h2 (by omega) b2;rw [A1] at c2;have h3:=h2.run (PM.exp [99,97,116,99,104] (by decide));have l3:=PM.le (PM.exp [99,97,116,99,104] (by decide)) h2.wf;generalize (PM.exp [99,97,116,99,104] (by decide)).run s2=y at c2 h3 l3 ⊢;obtain ⟨x2,s3⟩:=y;simp only at c2 h3 l3 ⊢;have b3:(σ.AK i (psA L s3)).blk i=some (psA L s3):=(by rw [AO,if_pos rfl]))
   (have c3:=(SW i L n) (σ.AK i (psA L s3)) s3 g0 h3 (by omega) b3;rw [A1] at c3;have h4:=h3.run (GN);have l4:=PM.le (GN) h3.wf;generalize (GN).run s3=y at c3 h4 l4 ⊢;obtain ⟨x3,s4⟩:=y;simp only at c3 h4 l4 ⊢;have b4:(σ.AK i (psA L s4)).blk i=some (psA L s4):=(by rw [AO,if_pos rfl]))
   (have c4:=(DA i L n [45,62] (by decide)) (σ.AK i (psA L s4)) s4 g0 h4 (by omega) b4;rw [A1] at c4;have h5:=h4.run (PM.exp [45,62] (by decide));have l5:=PM.le (PM.exp [45,62] (by decide)) h4.wf;generalize (PM.exp [45,62] (by decide)).run s4=y at c4 h5 l5 ⊢;obtain ⟨x4,s5⟩:=y;simp only at c4 h5 l5 ⊢;have b5:(σ.AK i (psA L s5)).blk i=some (psA L s5):=(by rw [AO,if_pos rfl]))
   (have c5:=ih (σ.AK i (psA L s5)) s5 g0 h5 (by omega) b5;rw [A1] at c5;have h6:=h5.run (Bw n);have l6:=PM.le (Bw n) h5.wf;generalize (Bw n).run s5=y at c5 h6 l6 ⊢;obtain ⟨x5,s6⟩:=y;simp only at c5 h6 l6 ⊢;have b6:(σ.AK i (psA L s6)).blk i=some (psA L s6):=(by rw [AO,if_pos rfl]);obtain ⟨o5,n5,u5,ns5,ks5,al5⟩:=x5;simp only [exA,Ex.A2,AF,AI] at c5 ⊢)
   (have c6:=(DA i L n [101,110,100] (by decide)) (σ.AK i (psA L s6)) s6 g0 h6 (by omega) b6;rw [A1] at c6;have h7:=h6.run (PM.exp [101,110,100] (by decide));have l7:=PM.le (PM.exp [101,110,100] (by decide)) h6.wf;generalize (PM.exp [101,110,100] (by decide)).run s6=y at c6 h7 l7 ⊢;obtain ⟨x6,s7⟩:=y;simp only at c6 h7 l7 ⊢;have b7:(σ.AK i (psA L s7)).blk i=some (psA L s7):=(by rw [AO,if_pos rfl]))
   (repeat' (first|refine Run.ct rfl ?_|((first|refine Run.reg mixed ?_|refine Run.AL ?_|refine Run.Ad CP (AN.le_refl _) ?_|(refine AH.upd c0 ?_)|(refine AH.upd c1 ?_)|(refine AH.upd c2 ?_)|(refine AH.upd c3 ?_)|(refine AH.upd c4 ?_)|(refine AH.upd c5 ?_)|(refine AH.upd c6 ?_)|refine AH.det (f1) ?_|refine AH.det (f2) ?_|refine AH.det (f3) ?_|refine AH.det (f4) ?_|(refine AR rfl (fun h=>?_) (fun h=>?_)<;>try (cases h;done)))<;>try simp -implicitDefEqProofs only [go_sem])|(refine ⟨fun h=>?_,fun h=>?_⟩<;>first|(cases h;done)|try simp only [h])|fail))
  |false=>
  have f5:=Cy h0 _ σ b0 t5
  simp only [if_false,AU]
  (have c0:=(sP i hN n ih) σ s0 g0 h0 (by omega) b0;have h1:=h0.run (Vu (Bw n));have l1:=PM.le (Vu (Bw n)) h0.wf;generalize (Vu (Bw n)).run s0=y at c0 h1 l1 ⊢;obtain ⟨x0,s1⟩:=y;simp only at c0 h1 l1 ⊢;have b1:(σ.AK i (psA L s1)).blk i=some (psA L s1):=(by rw [AO,if_pos rfl]);obtain ⟨o0,n0,u0,ns0,ks0,al0⟩:=x0;simp only [exA,Ex.A2,AF,AI] at c0 ⊢)
  (repeat' (first|refine Run.ct rfl ?_|((first|refine Run.reg mixed ?_|refine Run.AL ?_|refine Run.Ad CP (AN.le_refl _) ?_|(refine AH.upd c0 ?_)|refine AH.det (f1) ?_|refine AH.det (f2) ?_|refine AH.det (f3) ?_|refine AH.det (f4) ?_|refine AH.det (f5) ?_|(refine AR rfl (fun h=>?_) (fun h=>?_)<;>try (cases h;done)))<;>try simp -implicitDefEqProofs only [go_sem])|(refine ⟨fun h=>?_,fun h=>?_⟩<;>first|(cases h;done)|try simp only [h])|fail))
end Go.Ab
