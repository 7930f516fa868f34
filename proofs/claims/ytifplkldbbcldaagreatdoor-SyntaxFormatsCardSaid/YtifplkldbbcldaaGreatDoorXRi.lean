/- The printer: declarations, programs. The parser: applications, products, sums, comparisons. The parser: products, sums, comparisons, binders, expressions. Conditions: none. -/
import Derived.Test.YtifplkldbbcldaaGreatDoorXUg
set_option linter.unusedSimpArgs false
set_option linter.unusedVariables false
set_option maxRecDepth 4000
set_option maxHeartbeats 8000000
open Bool renaming and_eq_true→AM,false_eq_true→AU
open List renaming all_eq_true→A4,map_cons→AG,map_nil→AH,length_cons→AB,length_append→AA,length_nil→AD,append_assoc→AS,cons_append→A0,nil_append→A1,append_nil→AY,flatten_append→M3,map_append→Bg,take_append_drop→Et,length_map→AE,mem_of_getElem?→Aa,take_length→Li,getElem_of_mem→Cj,getElem?_eq_getElem→Ay,length_pos_iff→Aj
open Nat renaming le_trans→BC
open Option renaming map_some→Ca
open Option.some renaming injEq→AR,inj→JF
namespace Go.Ab
open Go.Proofs
theorem xD:Aw Tryz.prog 82=true:=by kernel_rfl
theorem ACO:Aw Tryz.prog 84=true:=by kernel_rfl
theorem zG:Aw Tryz.prog 80=true:=by kernel_rfl
theorem xE {i:Nat} (j:Nat) {c:CE} (h:QC c=true):
 WX (fun σ=>σ.blk j=some [.gp i 0]) 82 ([]++[ceA c]++[.gp j 0]) i (fmtC c):=by
 intro σ0 σ s hH0 hb0 hlen
 have hjs:=hH0.1
 have hH:(fun _=>True) σ0∧σ0.gt Sk=some Un:=⟨trivial,hH0.2⟩
 obtain ⟨n,l⟩:=c
 simp only [QC,AM,decide_eq_true_eq,A4] at h
 have hop:=IG (H:=fun _=>True) i (first:=[.gp i 0]) (caps:=[]) ACO ⟨rfl,rfl⟩ Au l (fun x hx=>wO i 40 x (h.2 x hx))
 refine PJ (by simp) ?_
 show Run _ _ _ (Ar [_,_]) _ _
 rw [BP]
 rw [fmtC] at hlen ⊢
 simp only [ceA,CE.enc,AG,AH] at hlen ⊢
 (repeat' (first|refine Run.ct rfl ?_|((first|refine Run.reg mixed ?_|refine Run.AJ ?_|(refine AI.mk rfl (A7 n hb0 (by (try simp only [AB,AA,AD] at hlen ⊢);omega)) ?_;rintro _ σ1 ⟨rfl,hb1⟩))<;>try simp -implicitDefEqProofs only [(hb0.le.blk j _ hjs),go_sem])|fail))
 try simp -implicitDefEqProofs only [(hb1.le.blk j _ hjs),go_sem]
 (repeat' (first|refine Run.ct rfl ?_|((first|refine Run.reg mixed ?_|refine Run.AJ ?_|(refine AI.mk rfl (hop σ0 σ1 _ hH hb1 (by (try simp only [AB,AA,AD] at hlen ⊢);omega)) ?_;rintro _ σ2 ⟨rfl,hb2⟩))<;>try simp -implicitDefEqProofs only [(hb1.le.blk j _ hjs),go_sem])|fail))
 try simp only [AS,A0,A1,AY] at hb2 ⊢
 exact Run.fin Io rfl (fun _ _ h=>h) (AN.le_refl _) ⟨rfl,hb2⟩
theorem xG {i:Nat} {d:DE} (h:G8 d=true):WC 42 [.gp i 0,deA d] i (M9 d):=by
 intro σ0 σ s hH hbu hlen
 obtain ⟨n,vs,cs⟩:=d
 simp only [G8,AM,decide_eq_true_eq,A4] at h
 have hvs:=NW (H:=fun _=>True) i (first:=[.gp i 0]) (caps:=[]) zG ⟨rfl,rfl⟩ id vs (fun x _=>zH i x)
 rw [List.map_id] at hvs
 refine RW (by simp) ?_
 rw [BP]
 rw [M9] at hlen ⊢
 simp only [deA,DE.enc,AG,AH] at hlen ⊢
 (repeat' (first|refine Run.ct rfl ?_|((first|refine Run.reg mixed ?_|refine Run.AJ ?_)<;>try simp -implicitDefEqProofs only [go_sem])|fail))
 intro j hj
 have hun:∀s' σ',BuS (σ0.AK j [.gp i 0]) i s' σ'→BuS σ0 i s' σ':=fun s' σ' h=>hbu.oW hj h
 have hjs:(σ0.AK j [.gp i 0]).blk j=some [.gp i 0]:=by simp [AO]
 have hH:(fun _=>True) (σ0.AK j [.gp i 0])∧(σ0.AK j [.gp i 0]).gt Sk=some Un:=⟨trivial,hH.2⟩
 have hb0:=hbu.share (cs:=[.gp i 0]) hj
 generalize σ.AK j [.gp i 0]=τ at hb0 ⊢
 generalize σ0.AK j [.gp i 0]=τ0 at hun hjs hH hb0
 have hHj:(fun σ=>σ.blk j=some [.gp i 0]) τ0∧τ0.gt Sk=some Un:=⟨hjs,hH.2⟩
 have hsep:=Og (H:=fun σ=>σ.blk j=some [.gp i 0]) i (first:=[]) (caps:=[.gp j 0]) xD ⟨rfl,rfl⟩ [32,124,32] fmtC cs (fun x hx=>xE j (h.2 x hx))
 have ha1:=B7 (a:=[100,97,116,97,32]) (b:=n) (by simp only [AA,AB,AD] at hlen ⊢;omega)
 simp only [A0,A1] at ha1
 (repeat' (first|refine Run.ct rfl ?_|((first|refine Run.reg mixed ?_|refine Run.AJ ?_|(refine AI.mk rfl (A7 _ hb0 (by (try simp only [AB,AA,AD] at hlen ⊢);omega)) ?_;rintro _ σ1 ⟨rfl,hb1⟩))<;>try simp -implicitDefEqProofs only [ha1,(hb0.le.blk j _ hjs),go_sem])|fail))
 try simp -implicitDefEqProofs only [(hb1.le.blk j _ hjs),go_sem]
 (repeat' (first|refine Run.ct rfl ?_|((first|refine Run.reg mixed ?_|refine Run.AJ ?_|(refine AI.mk rfl (hvs τ0 σ1 _ hH hb1 (by (try simp only [AB,AA,AD] at hlen ⊢);omega)) ?_;rintro _ σ2 ⟨rfl,hb2⟩))<;>try simp -implicitDefEqProofs only [ha1,(hb1.le.blk j _ hjs),go_sem])|fail))
 try simp -implicitDefEqProofs only [(hb2.le.blk j _ hjs),go_sem]
 (repeat' (first|refine Run.ct rfl ?_|((first|refine Run.reg mixed ?_|refine Run.AJ ?_|(refine AI.mk rfl (A7 [32,61,32] hb2 (by (try simp only [AB,AA,AD] at hlen ⊢);omega)) ?_;rintro _ σ3 ⟨rfl,hb3⟩))<;>try simp -implicitDefEqProofs only [ha1,(hb2.le.blk j _ hjs),go_sem])|fail))
 try simp -implicitDefEqProofs only [(hb3.le.blk j _ hjs),go_sem]
 (repeat' (first|refine Run.ct rfl ?_|((first|refine Run.reg mixed ?_|refine Run.AJ ?_|(refine AI.mk rfl (hsep τ0 σ3 _ hHj hb3 (by (try simp only [AB,AA,AD] at hlen ⊢);omega)) ?_;rintro _ σ4 ⟨rfl,hb4⟩))<;>try simp -implicitDefEqProofs only [ha1,(hb3.le.blk j _ hjs),go_sem])|fail))
 try simp -implicitDefEqProofs only [(hb4.le.blk j _ hjs),go_sem]
 (repeat' (first|refine Run.ct rfl ?_|((first|refine Run.reg mixed ?_|refine Run.AJ ?_|(refine AI.mk rfl (A7 [59,10] hb4 (by (try simp only [AB,AA,AD] at hlen ⊢);omega)) ?_;rintro _ σ5 ⟨rfl,hb5⟩))<;>try simp -implicitDefEqProofs only [ha1,(hb4.le.blk j _ hjs),go_sem])|fail))
 try simp only [AS,A0,A1,AY] at hb5 ⊢
 exact Run.fin KJ rfl (fun _ _ h=>h) (AN.le_refl _) ⟨rfl,hun _ _ hb5⟩
theorem T0 {α:Type} {f:α→Str} {l:List α} {k:Nat} {x:α} (h:l[k]?=some x):((l.take (k+1)).map f).flatten=((l.take k).map f).flatten++f x:=by
 rw [E3 h];simp
theorem Kj {α:Type} (f:α→Str) (l:List α) (k:Nat):((l.take k).map f).flatten.length≤(l.map f).flatten.length:=by
 have:((l.map f).flatten).length=((l.take k).map f).flatten.length+((l.drop k).map f).flatten.length:=by
  rw [← AA,← M3,← Bg,Et]
 omega
set_option maxHeartbeats 4000000 in
theorem Pl (p:Pg) (σ:AN) (hp:σ.gt Sk=some Un) (hs:∀d∈p.data,∀c∈d.cons,∀t∈c.args,t.size≤100000):
 AQ Tryz.prog 17 [pgA p] σ (fun v σ'=>v= .d (.str (if Cq p then V1 p else []))∧σ'=σ):=by
 have hv:=RF p σ (fun d hd c hc t ht=>BC (hs d hd c hc t ht) (by decide))
 refine XV (by simp) ?_
 rw [Ax]
 cases hval:Cq p with
 |false=>
  rw [hval] at hv
  obtain ⟨ds,fs⟩:=p
  simp only [pgA,Pg.enc,AG,AH,AU,if_false] at hv ⊢
  (repeat' (first|refine Run.ct rfl ?_|((first|refine Run.reg mixed ?_|refine Run.AJ ?_|(refine Run.A9 Lp (σ2:=σ) (AN.le_refl _) ?_)|refine AI.det (hv) ?_)<;>try simp -implicitDefEqProofs only [go_sem])|fail))
 |true=>
 rw [hval] at hv
 have hlen:=nS hval hs
 obtain ⟨⟨hd12,hda⟩,hf24,hfa⟩:=TJ hval
 obtain ⟨ds,fs⟩:=p
 simp only [pgA,Pg.enc,AG,AH,if_true] at hv hd12 hda hf24 hfa ⊢
 rw [V1,AA] at hlen
 simp only at hlen
 (repeat' (first|refine Run.ct rfl ?_|((first|refine Run.reg mixed ?_|refine Run.AJ ?_|(refine XEx.gA rfl rfl rfl (fun i hi=>?_))|refine AI.det (hv) ?_)<;>try simp -implicitDefEqProofs only [AE,go_sem])|fail))
 have hbu0:=pM hi
 have hbk0:((σ.AK i [.FP,.AX]).Ge i (2,87)).blk i=some [.FP,.AX]:=by simp [AN.Ge,AN.AK]
 generalize (σ.AK i [AV.FP,.AX]).Ge i (2,87)=τ0 at hbu0 hbk0 ⊢
 (repeat' (first|refine Run.ct rfl ?_|((first|refine Run.reg mixed ?_|refine Run.AJ ?_)<;>try simp -implicitDefEqProofs only [AE,go_sem])|fail))
 refine Run.B3 ?_
 refine Run.B6 ((fun (a1:AV) (a3:AV) (a14:AV) (a15:AV)=>fun (y:Nat×List UInt8×AN)=>put 1 a1 (put 3 a3 (put 14 a14 (put 15 a15 (put 16 (.d (.int .i64 y.1)) U))))) _ _ _ _) (fun _=>BZ 1 [.d (.sl (ds.map DE.enc)),.d (.sl (fs.map FE.enc))] E) (fun y=>y.2.2)
  (fun y=>y.1≤ds.length∧BuS σ i y.2.1 y.2.2∧y.2.1=((ds.take y.1).map M9).flatten∧(y.2.1=[]→∃p,y.2.2.blk i=some [p,.AX])) (fun y=>ds.length - y.1) ?_ (0,[],τ0) ⟨by simp,hbu0,by simp,fun _=>⟨_,hbk0⟩⟩
 rintro ⟨k,s1,τ⟩ ⟨hk,hb1,hs1,he1⟩ ih
 simp only at hk hb1 hs1 he1
 by_cases hlt:k < ds.length
 · obtain ⟨d,hd⟩:=Bu hlt
   have he:=Bi (enc:=DE.enc) hd
   have hw1:IntKind.i64.wrap ((k:Int)+1)=((k+1:Nat):Int):=by rw [Av (by omega) (by omega)];omega
   have hdo:=xG (i:=i) (hda d (Aa hd))
   have htf:=T0 (f:=M9) hd
   have hle:=Kj M9 ds (k+1)
   have hne:M9 d≠[]:=by rw [M9];simp
   rw [htf,← hs1,AA] at hle
   have hc:=hdo σ τ s1 ⟨trivial,hp⟩ hb1 (by omega)
   generalize M9 d=x at hc htf hne hle
   obtain ⟨n,vs,cs⟩:=d
   simp only [deA,DE.enc,AG,AH] at he hc
   (repeat' (first|refine Run.ct rfl ?_|((first|refine Run.reg mixed ?_|refine Run.AJ ?_|(refine AI.mk rfl hc ?_;rintro _ σ1 ⟨rfl,hb2⟩))<;>try simp -implicitDefEqProofs only [BQ hlt,he,hw1,AE,go_sem])|fail))
   (repeat' (first|refine Run.ct rfl ?_|((first|refine Run.reg mixed ?_|refine Run.AJ ?_)<;>try simp -implicitDefEqProofs only [hw1,go_sem])|fail))
   exact ih (k+1,_,σ1) ⟨by simp only;omega,hb2,by simp only;rw [htf,hs1],fun h=>absurd (List.append_eq_nil_iff.1 h).2 hne⟩ (by simp only;omega)
 have hke:k=ds.length:=by omega
 rw [hke,Li] at hs1
 (repeat' (first|refine Run.ct rfl ?_|((first|refine Run.reg mixed ?_|refine Run.AJ ?_)<;>try simp -implicitDefEqProofs only [DA hlt,AE,go_sem])|fail))
 refine Run.B3 ?_
 refine Run.B6 ((fun (a3:AV) (a25:AV) (a26:AV)=>fun (y:Nat×List UInt8×AN)=>put 3 a3 (put 25 a25 (put 26 a26 (put 27 (.d (.int .i64 y.1)) U)))) _ _ _) (fun _=>E) (fun y=>y.2.2)
  (fun y=>y.1≤fs.length∧BuS σ i y.2.1 y.2.2∧y.2.1=(ds.map M9).flatten++((fs.take y.1).map Oy).flatten∧(y.2.1=[]→∃p,y.2.2.blk i=some [p,.AX])) (fun y=>fs.length - y.1) ?_ (0,s1,τ) ⟨by simp,hb1,by simp [hs1],he1⟩
 rintro ⟨q,s2,τ2⟩ ⟨hq,hq1,hs2,he2⟩ ih2
 simp only at hq hq1 hs2 he2
 by_cases hlt2:q < fs.length
 · obtain ⟨d,hd⟩:=Bu hlt2
   have he:=Bi (enc:=FE.enc) hd
   have hw1:IntKind.i64.wrap ((q:Int)+1)=((q+1:Nat):Int):=by rw [Av (by omega) (by omega)];omega
   obtain ⟨hhd,hnb,hsz⟩:=hfa d (Aa hd)
   have htf:=T0 (f:=Oy) hd
   have hle:=Kj Oy fs (q+1)
   have hne:Oy d≠[]:=by rw [Oy];simp
   rw [htf,AA] at hle
   have hl2:s2.length+(Oy d).length≤10000000000:=by rw [hs2,AA];omega
   have hex:=dQ i d.body hnb 0
   unfold EC at hex
   rw [pl,if_neg (by omega)] at hex
   rw [Oy] at hl2 htf hne
   simp only [MW,AM,decide_eq_true_eq] at hhd
   obtain ⟨n,ps,b⟩:=d
   simp only at hl2 htf hne hex hhd
   generalize Af b=tb at *
   obtain ⟨ob,nb,ub,nsb,ksb,alb⟩:=b
   simp only [exA,FE.enc,Ex.A3,AG,AH,A0,A1] at he hex
   have hlen2:=hl2
   simp only [FU,GB,cms,AA,AB,AD] at hlen2
   have hjn:=fun σ=>nE ps [44,32] σ (by omega) (by omega)
   have ha1:=B7 (a:=[102,117,110,32]) (b:=n) (by simp only [AA,AB,AD];omega)
   have ha2:=B7 (a:=[102,117,110,32]++n) (b:=[40]) (by simp only [AA,AB,AD];omega)
   have ha3:=B7 (a:=[102,117,110,32]++n++[40]) (b:=Lib.join ps [44,32]) (by simp only [AA,AB,AD];omega)
   have ha4:=B7 (a:=[102,117,110,32]++n++[40]++Lib.join ps [44,32]) (b:=[41,32,61,32]) (by simp only [AA,AB,AD];omega)
   simp only [A0,A1] at ha1 ha2 ha3 ha4
   (repeat' (first|refine Run.ct rfl ?_|((first|refine Run.reg mixed ?_|refine Run.AJ ?_|(refine AI.mk rfl (A7 _ hq1 (by simp only [AA,AB,AD];omega)) ?_;rintro _ σ1 ⟨rfl,hb2⟩)|refine AI.det (hjn _) ?_)<;>try simp -implicitDefEqProofs only [BQ hlt2,he,hw1,ha1,ha2,ha3,ha4,AE,go_sem])|fail))
   (repeat' (first|refine Run.ct rfl ?_|((first|refine Run.reg mixed ?_|refine Run.AJ ?_|(refine AI.mk rfl (hex σ σ1 _ ⟨trivial,hp⟩ hb2 (by simp only [AA,AB,AD];omega)) ?_;rintro _ σ2 ⟨rfl,hb3⟩))<;>try simp -implicitDefEqProofs only [hw1,go_sem])|fail))
   (repeat' (first|refine Run.ct rfl ?_|((first|refine Run.reg mixed ?_|refine Run.AJ ?_|(refine AI.mk rfl (A7 _ hb3 (by simp only [AA,AB,AD];omega)) ?_;rintro _ σ3 ⟨rfl,hb4⟩))<;>try simp -implicitDefEqProofs only [hw1,go_sem])|fail))
   (repeat' (first|refine Run.ct rfl ?_|((first|refine Run.reg mixed ?_|refine Run.AJ ?_)<;>try simp -implicitDefEqProofs only [hw1,go_sem])|fail))
   refine ih2 (q+1,_,σ3) ⟨by simp only;omega,hb4,?_,fun h=>?_⟩ (by simp only;omega)
   · simp only
     rw [htf,hs2]
     simp [FU,GB,cms]
   · simp at h
 have hqe:q=fs.length:=by omega
 rw [hqe,Li] at hs2
 have hst:=o8 hq1 he2
 (repeat' (first|refine Run.ct rfl ?_|((first|refine Run.reg mixed ?_|refine Run.AJ ?_|(refine AI.mk rfl hst ?_;rintro _ σ1 ⟨rfl,hle1⟩)|(refine Run.A9 Lp (σ2:=σ) hle1 ?_))<;>try simp -implicitDefEqProofs only [DA hlt2,AE,go_sem])|fail))
 rw [hs2];rfl
end Go.Ab
namespace Go.Ab
open Go.Proofs
theorem Run.vF {cx:Cx} {KK:AV→AN→Prop} {k:List CI} {F:Fm} {L L':Lm} {σ:AN} (hL:∀q cs',L' q=some cs'→∃cs,L q=some cs∧(cs'=cs∨cs'=AV.Ez cs)) (h:Run cx KK k F L' σ):Run cx KK k F L σ:=by
 intro items base g lam Pr a w0 w b cs0 hi0 hf hb hk
 refine h items base g lam Pr a w0 w b cs0 hi0 ⟨hf.tm,hf.sz,hf.df,fun q cs' hq=>?_,hf.inj,hf.npr,hf.rel⟩ hb hk
 obtain ⟨cs,hc,hp⟩:=hL q cs' hq
 obtain ⟨hok,b',vs,ty,h1,h2,h3,h4⟩:=hf.loc q cs hc
 refine ⟨?_,b',vs,ty,h1,h2,h3,?_⟩
 · rcases hp with rfl|rfl
   · exact hok
   · simp only [Am,A4] at hok ⊢
     intro v hv
     obtain ⟨i,hi,rfl⟩:=Cj hv
     have h1:=NX cs i
     rw [Ay hi] at h1
     cases hcs:cs[i]? with
     |none=>rw [hcs] at h1;cases h1
     |some c'=>rw [hcs] at h1;simp only [Ca,AR] at h1;rw [h1];exact ZK (hok c' (Aa hcs))
 · rcases hp with rfl|rfl
   · exact h4
   · exact h4.plain
def exC (e:Ex):List AV:=e.enc.map AV.d
theorem QD (o:Int) (n:Str) (u:Int) (ns:List Str) (ks:List Ex) (al:List Al):[AV.d (.int .i64 o),.d (.str n),.d (.int .i64 u),.d (.sl (ns.map BM)),.d (.sl (ks.map Ex.enc)),.d (.sl (al.map Al.enc))]=exC (.mk o n u ns ks al):=by
 rw [exC,Ex.A3];rfl
theorem Y6 (i:Nat) (L:List Tok) (n:Nat) {E:PM Ex} (hE:PC 131 [.gp i 0] i L n E exA):PC 208 [.gp i 0,.fn 131 [.gp i 0] []] i L n (closed E) (fun l=>.d (.sl (l.map Ex.enc))):=(U6 i L n Xj hE).pc
theorem AA6 {E:PM Ex} {n:Nat} {a:Ex} {s:PSt} (hc:(s.hd.text==[40])=true):(U0 E (n+1) a).run s=(U0 E n (exN 12 0 (a::((closed E).run s.adv).1))).run ((closed E).run s.adv).2:=if_pos hc
theorem AA5 {E:PM Ex} {n:Nat} {a:Ex} {s:PSt} (hc:(s.hd.text==[40])=false):(U0 E (n+1) a).run s=(a,s):=if_neg (by rw [hc];decide)
set_option maxHeartbeats 2000000 in
theorem sR (i:Nat) {L:List Tok} (hN:NOk L) (n:Nat) {E:PM Ex} (hE:PC 131 [.gp i 0] i L n E exA):PC 204 [.gp i 0] i L (n+1) (R4 E) exA:=by
 intro σ s0 g0 h0 l0 b0
 refine Ta (by simp) ?_
 rw [Ax]
 simp only [R4,run_bind]
 (have c0:=(y0 i hN n hE) σ s0 g0 h0 (by omega) b0;have h1:=h0.run (Iq E);have l1:=PM.le (Iq E) h0.wf;generalize (Iq E).run s0=y at c0 h1 l1 ⊢;obtain ⟨x0,s1⟩:=y;simp only at c0 h1 l1 ⊢;have b1:(σ.AK i (psA L s1)).blk i=some (psA L s1):=(by rw [AO,if_pos rfl]);obtain ⟨o0,n0,u0,ns0,ks0,al0⟩:=x0;simp only [exA,Ex.A3,AG,AH] at c0 ⊢)
 (repeat' (first|refine Run.ct rfl ?_|((first|refine Run.reg mixed ?_|refine Run.AJ ?_|(refine AI.upd c0 ?_))<;>try simp -implicitDefEqProofs only [go_sem])|fail))
 rw [QD]
 refine Run.B3 ?_
 have hf0:=Fg
 have hl0:=h0.suf.length_le
 have hl1:=h0.len
 refine Run.B6 (α:=PSt×Ex×Nat) (fun _=>put 0 (.gp i 0) (put 2 (.lp 2 0) (put 3 (.lp 3 0) U))) (fun y=>BZ 2 [.d (.int .i64 0),.d (.str []),.d (.int .i64 0),.AX,.AX,.AX] (BZ 3 (exC y.2.1) Ab.E)) (fun y=>σ.AK i (psA L y.1)) (fun y=>POk L y.1∧y.1.r.length≤n+1∧y.1.r.length≤y.2.2∧(U0 E y.2.2 y.2.1).run y.1=(U0 E BL (Ex.mk o0 n0 u0 ns0 ks0 al0)).run s1) (fun y=>y.1.r.length) ?_ (s1,(Ex.mk o0 n0 u0 ns0 ks0 al0),BL) ⟨h1,by simp only;omega,by simp only;omega,rfl⟩
 rintro ⟨s2,a,q⟩ ⟨p1,p2,p3,p4⟩ ih
 simp only at p1 p2 p3 p4
 have b2:(σ.AK i (psA L s2)).blk i=some (psA L s2):=(by rw [AO,if_pos rfl])
 obtain ⟨q,rfl⟩:∃m,q=m+1:=⟨q - 1,by have:=Aj.2 p1.wf.ne;omega⟩
 have hlen:=U7 (read:=E) (s:=s2.adv)
 obtain ⟨o,nm,u,ns,ks,al⟩:=a
 simp only [← QD]
 cases hc:s2.hd.text==[40] with
 |false=>
  rw [AA5 hc] at p4
  rw [← p4]
  simp only [exA,exN,Ex.A3,AG,AH]
  (repeat' (first|refine Run.ct rfl ?_|((first|refine Run.reg mixed ?_|refine Run.AJ ?_|refine Run.A9 MS (AN.le_refl _) ?_|refine AI.det (DL p1 _ (σ.AK i (psA L s2)) b2 hc) ?_)<;>try simp -implicitDefEqProofs only [go_sem])|fail))
 |true=>
  rw [AA6 hc] at p4
  have h2:=p1
  (have c2:=DM h2 [40] (σ.AK i (psA L s2)) b2 hc;rw [A2] at c2;have h3:=h2.adv (t:=[40]) (by decide) hc;have l3:=B0 h2.wf;generalize s2.adv=s3 at c2 h3 l3 p4 ⊢;have b3:(σ.AK i (psA L s3)).blk i=some (psA L s3):=by rw [AO,if_pos rfl])
  have d3:=fun tk:Nat=>Y6 i L n hE ((σ.AK i (psA L s3)).Da tk) s3 g0 h3 (by omega) (by rw [GO];exact b3)
  have c3:=Y6 i L n hE (σ.AK i (psA L s3)) s3 g0 h3 (by omega) b3
  rw [A2] at c3
  have h4:=h3.run (closed E)
  have l4:=PM.le (closed E) h3.wf
  have n3:=U7 (read:=E) h3.wf
  generalize (closed E).run s3=y at c3 d3 h4 l4 n3 p4
  obtain ⟨x3,s4⟩:=y
  simp only at c3 d3 h4 l4 n3 p4
  have q3:=h3.suf.length_le
  have hfin:∀v2 τ2,LS σ i L s4 44 6 ((Ex.mk o nm u ns ks al::x3).map Ex.enc) v2 τ2→Run D7 (fun v σ'=>v= .agg (((U0 E BL (Ex.mk o0 n0 u0 ns0 ks0 al0)).run s1).1.enc.map AV.d)∧σ'=σ.AK i (psA L ((U0 E BL (Ex.mk o0 n0 u0 ns0 ks0 al0)).run s1).2))
   [CI.again JR,CI.blk 0,CI.code ((C.reg [⟨some 16,.ldl (.t 3) (some 6),none⟩,⟨none,.st (.t 2) (.t 16) 6,none⟩] [2]).seq C.ret)]
   (put 0 (.gp i 0) (put 2 (.lp 2 0) (put 3 (.lp 3 0) U))) (BZ 2 [.d (.int .i64 0),.d (.str []),.d (.int .i64 0),.AX,.AX,.AX] (BZ 3 [.d (.int .i64 12),.d (.str []),.d (.int .i64 0),.AX,v2,.AX] Ab.E)) τ2:=fun v2 τ2 ho=>by
   refine Run.mY (σ':=σ.AK i (psA L s4)) (fun _=>.inl rfl) (fun _ _ h=>h) ho.le ?_
   have hpl:AV.Ez [.d (.int .i64 12),.d (.str []),.d (.int .i64 0),.AX,v2,.AX]=exC (exN 12 0 (Ex.mk o nm u ns ks al::x3)):=by
    rw [exN,← QD]
    simp only [AV.Ez,AV.plain,ho.own.plain,AH]
   refine Run.vF (L':=BZ 2 [.d (.int .i64 0),.d (.str []),.d (.int .i64 0),.AX,.AX,.AX] (BZ 3 (exC (exN 12 0 (Ex.mk o nm u ns ks al::x3))) Ab.E)) (fun q' cs' hq=>?_) (ih (s4,exN 12 0 (Ex.mk o nm u ns ks al::x3),q) ⟨h4,by simp only;omega,by simp only;omega,p4⟩ (by simp only;omega))
   by_cases e2:q'=2
   · subst e2
     exact ⟨cs',hq,.inl rfl⟩
   · by_cases e3:q'=3
     · subst e3
       have:cs'=exC (exN 12 0 (Ex.mk o nm u ns ks al::x3)):=(JF hq).symm
       exact ⟨_,rfl,.inr (by rw [this,hpl])⟩
     · simp [BZ,e2,e3,Ab.E] at hq
  (repeat' (first|refine Run.ct rfl ?_|((first|refine Run.reg mixed ?_|refine Run.AJ ?_|(refine AI.upd c2 ?_))<;>try simp -implicitDefEqProofs only [go_sem])|fail))
  refine Run.FA mixed ?_;simp -implicitDefEqProofs only [go_sem]
  refine ⟨?_,?_⟩
  · refine Ia.own rfl (by decide) (fun tk htk=>?_);simp -implicitDefEqProofs only [go_sem]
    refine AI.upd (d3 tk) ?_;simp -implicitDefEqProofs only [go_sem]
    (apply LS.tok (LS.yH htk s4);rfl;exact (N1 _ _ Ex.yA);(simp only [AE,AB,AD];omega);decide;intro v2 τ2 ho);simp -implicitDefEqProofs only [ho.own.BJ,ho.own.As,ho.own.cells,ho.own.cell,ho.own.plain,ho.own.dv,if_true,go_sem]
    (repeat' (first|refine Run.ct rfl ?_|((first|refine Run.reg mixed ?_|refine Run.AJ ?_)<;>try simp -implicitDefEqProofs only [ho.own.BJ,ho.own.As,ho.own.cells,ho.own.cell,ho.own.plain,ho.own.dv,if_true,go_sem])|fail))
    exact hfin v2 τ2 (by rw [AG,Ex.A3];exact ho)
  · refine AI.upd c3 ?_;simp -implicitDefEqProofs only [go_sem]
    refine Ia.own rfl (by decide) (fun tk htk=>?_);simp -implicitDefEqProofs only [go_sem]
    (apply LS.tok (LS.yG htk);rfl;exact (N1 _ _ Ex.yA);(simp only [AE,AB,AD];omega);decide;intro v2 τ2 ho);simp -implicitDefEqProofs only [ho.own.BJ,ho.own.As,ho.own.cells,ho.own.cell,ho.own.plain,ho.own.dv,if_true,go_sem]
    (repeat' (first|refine Run.ct rfl ?_|((first|refine Run.reg mixed ?_|refine Run.AJ ?_)<;>try simp -implicitDefEqProofs only [ho.own.BJ,ho.own.As,ho.own.cells,ho.own.cell,ho.own.plain,ho.own.dv,if_true,go_sem])|fail))
    exact hfin v2 τ2 (by rw [AG,Ex.A3];exact ho)
end Go.Ab
namespace Go.Ab
open Go.Proofs
theorem cL (lv:Nat) (t:Str):∀n k,k+n≤9→K8 lv t n k≤8
 |0,k,_=>by rw [K8];omega
 |n+1,k,h=>by
  rw [K8];split
  · omega
  · exact cL lv t n (k+1) (by omega)
theorem vD (lv:Nat) (t:Str):opR lv t≤8:=cL lv t 8 1 (by omega)
theorem cM {lv:Nat} {t:Str}:∀ {n k:Nat},K8 lv t n k≠0→∃x,x≠[]∧(t==x)=true
 |0,k,h=>by rw [K8] at h;exact absurd rfl h
 |n+1,k,h=>by
  rw [K8] at h;split at h
  · rename_i hh
    refine ⟨_,?_,hh.2⟩
    unfold opT Vh
    split<;>simp
  · exact cM h
theorem lT {lv:Nat} {t:Str} (h:opR lv t≠0):∃x,x≠[]∧(t==x)=true:=cM h
theorem y5 {E:PM Ex} {n:Nat} {a:Ex} {s:PSt} (hc:opR 3 s.hd.text≠0):(KR E (n+1) a).run s=(KR E n (Hn ((opR 3 s.hd.text:Nat):Int) a ((R4 E).run s.adv).1)).run ((R4 E).run s.adv).2:=by
 rw [KR]
 simp only [Hb,run_bind]
 rw [ADX] at hc ⊢
 cases h0:s.hd.text==[42] with
 |true=>simp
 |false=>
 cases h1:s.hd.text==[47] with
 |true=>simp
 |false=>
 cases h2:s.hd.text==[37] with
 |true=>simp
 |false=>
 simp [h0,h1,h2] at hc
theorem y4 {E:PM Ex} {n:Nat} {a:Ex} {s:PSt} (hc:opR 3 s.hd.text=0):(KR E (n+1) a).run s=(a,s):=by
 rw [KR]
 simp only [Hb,run_pure]
 rw [ADX] at hc
 cases h0:s.hd.text==[42] with
 |true=>simp [h0] at hc
 |false=>
 cases h1:s.hd.text==[47] with
 |true=>simp [h0,h1] at hc
 |false=>
 cases h2:s.hd.text==[37] with
 |true=>simp [h0,h1,h2] at hc
 |false=>
 simp
set_option maxHeartbeats 2000000 in
theorem oQ (i:Nat) {L:List Tok} (hN:NOk L) (n:Nat) {E:PM Ex} (hE:PC 131 [.gp i 0] i L n E exA):PC 197 [.gp i 0] i L (n+1) (MX E) exA:=by
 intro σ s0 g0 h0 l0 b0
 refine S2 (by simp) ?_
 rw [Ax]
 simp only [MX,run_bind]
 (have c0:=(sR i hN n hE) σ s0 g0 h0 (by omega) b0;have h1:=h0.run (R4 E);have l1:=PM.le (R4 E) h0.wf;generalize (R4 E).run s0=y at c0 h1 l1 ⊢;obtain ⟨x0,s1⟩:=y;simp only at c0 h1 l1 ⊢;have b1:(σ.AK i (psA L s1)).blk i=some (psA L s1):=(by rw [AO,if_pos rfl]);obtain ⟨o0,n0,u0,ns0,ks0,al0⟩:=x0;simp only [exA,Ex.A3,AG,AH] at c0 ⊢)
 have c1:=L2 h1 3 (σ.AK i (psA L s1)) b1
 rw [A2] at c1
 (repeat' (first|refine Run.ct rfl ?_|((first|refine Run.reg mixed ?_|refine Run.AJ ?_|(refine AI.upd c0 ?_)|(refine AI.upd c1 ?_))<;>try simp -implicitDefEqProofs only [go_sem])|fail))
 rw [QD]
 refine Run.B3 ?_
 have hf0:=Fg
 have hl0:=h0.suf.length_le
 have hl1:=h0.len
 refine Run.B6 (α:=PSt×Ex×Nat) (fun y=>put 0 (.gp i 0) (put 2 (.lp 2 0) (put 3 (.lp 3 0) (put 4 (.d (.int .i64 ((opR 3 y.1.hd.text:Nat):Int))) U)))) (fun y=>BZ 2 [.d (.int .i64 0),.d (.str []),.d (.int .i64 0),.AX,.AX,.AX] (BZ 3 (exC y.2.1) Ab.E)) (fun y=>if opR 3 y.1.hd.text=0 then σ.AK i (psA L y.1) else σ.AK i (psA L y.1.adv)) (fun y=>POk L y.1∧y.1.r.length≤n+1∧y.1.r.length≤y.2.2∧(KR E y.2.2 y.2.1).run y.1=(KR E BL (Ex.mk o0 n0 u0 ns0 ks0 al0)).run s1) (fun y=>y.1.r.length) ?_ (s1,(Ex.mk o0 n0 u0 ns0 ks0 al0),BL) ⟨h1,by simp only;omega,by simp only;omega,rfl⟩
 rintro ⟨s2,a,q⟩ ⟨p1,p2,p3,p4⟩ ih
 simp only at p1 p2 p3 p4
 have b2:(σ.AK i (psA L s2)).blk i=some (psA L s2):=(by rw [AO,if_pos rfl])
 obtain ⟨q,rfl⟩:∃m,q=m+1:=⟨q - 1,by have:=Aj.2 p1.wf.ne;omega⟩
 obtain ⟨o,nm,u,ns,ks,al⟩:=a
 simp only [← QD]
 by_cases hc:opR 3 s2.hd.text=0
 · rw [y4 hc] at p4
   rw [← p4]
   have hne:(((opR 3 s2.hd.text:Nat):Int) != 0)=false:=by rw [hc];rfl
   simp only [exA,exN,Ex.A3,AG,AH,if_pos hc]
   (repeat' (first|refine Run.ct rfl ?_|((first|refine Run.reg mixed ?_|refine Run.AJ ?_|refine Run.A9 LV (AN.le_refl _) ?_)<;>try simp -implicitDefEqProofs only [hne,go_sem])|fail))
 · rw [y5 hc] at p4
   have hne:(((opR 3 s2.hd.text:Nat):Int) != 0)=true:=by simp;exact hc
   simp only [if_neg hc]
   have h3:POk L s2.adv:=by
    rcases (lT hc) with ⟨t,ht,he⟩
    exact p1.adv ht he
   have l3:=B0 p1.wf
   have hop:=vD 3 s2.hd.text
   generalize opR 3 s2.hd.text=w at p4 hne hop ⊢
   generalize s2.adv=s3 at p4 h3 l3 ⊢
   have b3:(σ.AK i (psA L s3)).blk i=some (psA L s3):=(by rw [AO,if_pos rfl])
   (have c3:=(sR i hN n hE) (σ.AK i (psA L s3)) s3 g0 h3 (by omega) b3;rw [A2] at c3;have h4:=h3.run (R4 E);have l4:=PM.le (R4 E) h3.wf;generalize (R4 E).run s3=y at c3 h4 l4 p4 ⊢;obtain ⟨x3,s4⟩:=y;simp only at c3 h4 l4 p4 ⊢;have b4:(σ.AK i (psA L s4)).blk i=some (psA L s4):=(by rw [AO,if_pos rfl]);obtain ⟨o3,n3,u3,ns3,ks3,al3⟩:=x3;simp only [exA,Ex.A3,AG,AH] at c3 ⊢)
   have c4:=WB (w:Int) (.mk o nm u ns ks al) (Ex.mk o3 n3 u3 ns3 ks3 al3) (σ.AK i (psA L s4))
   simp only [exA,Ex.A3,Hn,exN,AG,AH] at c4
   have c5:=L2 h4 3 (σ.AK i (psA L s4)) b4
   rw [A2] at c5
   (repeat' (first|refine Run.ct rfl ?_|((first|refine Run.reg mixed ?_|refine Run.AJ ?_|(refine AI.upd c3 ?_)|(refine AI.upd c5 ?_)|refine AI.det (c4) ?_)<;>try simp -implicitDefEqProofs only [hne,go_sem])|fail))
   have hx:=QD 13 [] (w:Int) [] [.mk o nm u ns ks al,(Ex.mk o3 n3 u3 ns3 ks3 al3)] []
   simp only [Ex.A3,AG,AH] at hx
   rw [hx]
   exact ih (s4,Hn (w:Int) (.mk o nm u ns ks al) (Ex.mk o3 n3 u3 ns3 ks3 al3),q) ⟨h4,by simp only;omega,by simp only;omega,p4⟩ (by simp only;omega)
theorem ACJ {E:PM Ex} {n:Nat} {a:Ex} {s:PSt} (hc:opR 2 s.hd.text≠0):(Tn E (n+1) a).run s=(Tn E n (Hn ((opR 2 s.hd.text:Nat):Int) a ((MX E).run s.adv).1)).run ((MX E).run s.adv).2:=by
 rw [Tn]
 simp only [Hb,run_bind]
 rw [ADW] at hc ⊢
 cases h0:s.hd.text==[43] with
 |true=>simp
 |false=>
 cases h1:s.hd.text==[45] with
 |true=>simp
 |false=>
 simp [h0,h1] at hc
theorem ACI {E:PM Ex} {n:Nat} {a:Ex} {s:PSt} (hc:opR 2 s.hd.text=0):(Tn E (n+1) a).run s=(a,s):=by
 rw [Tn]
 simp only [Hb,run_pure]
 rw [ADW] at hc
 cases h0:s.hd.text==[43] with
 |true=>simp [h0] at hc
 |false=>
 cases h1:s.hd.text==[45] with
 |true=>simp [h0,h1] at hc
 |false=>
 simp
set_option maxHeartbeats 2000000 in
theorem wL (i:Nat) {L:List Tok} (hN:NOk L) (n:Nat) {E:PM Ex} (hE:PC 131 [.gp i 0] i L n E exA):PC 186 [.gp i 0] i L (n+1) (L3 E) exA:=by
 intro σ s0 g0 h0 l0 b0
 refine Te (by simp) ?_
 rw [Ax]
 simp only [L3,run_bind]
 (have c0:=(oQ i hN n hE) σ s0 g0 h0 (by omega) b0;have h1:=h0.run (MX E);have l1:=PM.le (MX E) h0.wf;generalize (MX E).run s0=y at c0 h1 l1 ⊢;obtain ⟨x0,s1⟩:=y;simp only at c0 h1 l1 ⊢;have b1:(σ.AK i (psA L s1)).blk i=some (psA L s1):=(by rw [AO,if_pos rfl]);obtain ⟨o0,n0,u0,ns0,ks0,al0⟩:=x0;simp only [exA,Ex.A3,AG,AH] at c0 ⊢)
 have c1:=L2 h1 2 (σ.AK i (psA L s1)) b1
 rw [A2] at c1
 (repeat' (first|refine Run.ct rfl ?_|((first|refine Run.reg mixed ?_|refine Run.AJ ?_|(refine AI.upd c0 ?_)|(refine AI.upd c1 ?_))<;>try simp -implicitDefEqProofs only [go_sem])|fail))
 rw [QD]
 refine Run.B3 ?_
 have hf0:=Fg
 have hl0:=h0.suf.length_le
 have hl1:=h0.len
 refine Run.B6 (α:=PSt×Ex×Nat) (fun y=>put 0 (.gp i 0) (put 2 (.lp 2 0) (put 3 (.lp 3 0) (put 4 (.d (.int .i64 ((opR 2 y.1.hd.text:Nat):Int))) U)))) (fun y=>BZ 2 [.d (.int .i64 0),.d (.str []),.d (.int .i64 0),.AX,.AX,.AX] (BZ 3 (exC y.2.1) Ab.E)) (fun y=>if opR 2 y.1.hd.text=0 then σ.AK i (psA L y.1) else σ.AK i (psA L y.1.adv)) (fun y=>POk L y.1∧y.1.r.length≤n+1∧y.1.r.length≤y.2.2∧(Tn E y.2.2 y.2.1).run y.1=(Tn E BL (Ex.mk o0 n0 u0 ns0 ks0 al0)).run s1) (fun y=>y.1.r.length) ?_ (s1,(Ex.mk o0 n0 u0 ns0 ks0 al0),BL) ⟨h1,by simp only;omega,by simp only;omega,rfl⟩
 rintro ⟨s2,a,q⟩ ⟨p1,p2,p3,p4⟩ ih
 simp only at p1 p2 p3 p4
 have b2:(σ.AK i (psA L s2)).blk i=some (psA L s2):=(by rw [AO,if_pos rfl])
 obtain ⟨q,rfl⟩:∃m,q=m+1:=⟨q - 1,by have:=Aj.2 p1.wf.ne;omega⟩
 obtain ⟨o,nm,u,ns,ks,al⟩:=a
 simp only [← QD]
 by_cases hc:opR 2 s2.hd.text=0
 · rw [ACI hc] at p4
   rw [← p4]
   have hne:(((opR 2 s2.hd.text:Nat):Int) != 0)=false:=by rw [hc];rfl
   simp only [exA,exN,Ex.A3,AG,AH,if_pos hc]
   (repeat' (first|refine Run.ct rfl ?_|((first|refine Run.reg mixed ?_|refine Run.AJ ?_|refine Run.A9 MV (AN.le_refl _) ?_)<;>try simp -implicitDefEqProofs only [hne,go_sem])|fail))
 · rw [ACJ hc] at p4
   have hne:(((opR 2 s2.hd.text:Nat):Int) != 0)=true:=by simp;exact hc
   simp only [if_neg hc]
   have h3:POk L s2.adv:=by
    rcases (lT hc) with ⟨t,ht,he⟩
    exact p1.adv ht he
   have l3:=B0 p1.wf
   have hop:=vD 2 s2.hd.text
   generalize opR 2 s2.hd.text=w at p4 hne hop ⊢
   generalize s2.adv=s3 at p4 h3 l3 ⊢
   have b3:(σ.AK i (psA L s3)).blk i=some (psA L s3):=(by rw [AO,if_pos rfl])
   (have c3:=(oQ i hN n hE) (σ.AK i (psA L s3)) s3 g0 h3 (by omega) b3;rw [A2] at c3;have h4:=h3.run (MX E);have l4:=PM.le (MX E) h3.wf;generalize (MX E).run s3=y at c3 h4 l4 p4 ⊢;obtain ⟨x3,s4⟩:=y;simp only at c3 h4 l4 p4 ⊢;have b4:(σ.AK i (psA L s4)).blk i=some (psA L s4):=(by rw [AO,if_pos rfl]);obtain ⟨o3,n3,u3,ns3,ks3,al3⟩:=x3;simp only [exA,Ex.A3,AG,AH] at c3 ⊢)
   have c4:=WB (w:Int) (.mk o nm u ns ks al) (Ex.mk o3 n3 u3 ns3 ks3 al3) (σ.AK i (psA L s4))
   simp only [exA,Ex.A3,Hn,exN,AG,AH] at c4
   have c5:=L2 h4 2 (σ.AK i (psA L s4)) b4
   rw [A2] at c5
   (repeat' (first|refine Run.ct rfl ?_|((first|refine Run.reg mixed ?_|refine Run.AJ ?_|(refine AI.upd c3 ?_)|(refine AI.upd c5 ?_)|refine AI.det (c4) ?_)<;>try simp -implicitDefEqProofs only [hne,go_sem])|fail))
   have hx:=QD 13 [] (w:Int) [] [.mk o nm u ns ks al,(Ex.mk o3 n3 u3 ns3 ks3 al3)] []
   simp only [Ex.A3,AG,AH] at hx
   rw [hx]
   exact ih (s4,Hn (w:Int) (.mk o nm u ns ks al) (Ex.mk o3 n3 u3 ns3 ks3 al3),q) ⟨h4,by simp only;omega,by simp only;omega,p4⟩ (by simp only;omega)
end Go.Ab
