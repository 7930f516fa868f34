/- The printer: expressions. The printer: declarations, programs. The parser's steps over any number of rounds: reading a text by computing. The sanity check of the laws of syntax. The guards on programs: Names, written, expr. The guards on programs: Prog. The law on sizes: SyntaxLimits, over abstract values. Conditions: none. -/
import Derived.KernelRfl
import Derived.Test.YtifplkldbbcldaaGreatDoorXRe
set_option linter.unusedSimpArgs false
set_option linter.unusedVariables false
set_option maxRecDepth 4000
set_option maxHeartbeats 8000000
open List renaming all_eq_true→A7,mem_cons→Cm,mem_map→Lw,take_of_length_le→A8,map_cons→AB,map_nil→AE,length_cons→AG,length_append→AA,length_nil→AI,append_assoc→AY,cons_append→Ae,nil_append→A6,append_nil→Ap,mem_cons_of_mem→Bh,mem_cons_self→BB,getElem?_cons_zero→F8,length_map→AJ,flatten_append→Ma,map_append→Ax,take_append_drop→Gt,mem_of_getElem?→Aa
open Int renaming reduceBEq→As
open Bool renaming and_eq_true→AR,false_eq_true→AL
open Option renaming bind_some→Cn
open Nat renaming le_trans→Ay
namespace Go.Ab
open Go.Proofs
theorem ltI (a b:Nat):decide ((a:Int) < (b:Int))=decide (a < b):=decide_eq_decide.2 (by omega)
theorem eqS (n:Nat):(((n+1:Nat):Int)==0)=false:=Ch (by omega)
theorem xK (f:Ex) (l:List Ex):gS (List.map Ex.enc (f::l)) (some (.d (.int .i64 1))) none none 6=some (.d (.sl (l.map Ex.enc))):=by
 simp [gS,YN,Vz]
 refine ⟨?_,?_⟩
 · rw [nR,A7]
   intro r hr
   rw [beq_iff_eq]
   rcases Cm.1 hr with rfl|hr
   · obtain ⟨o,n,u,ns,ks,al⟩:=f;rfl
   · obtain ⟨x,_,rfl⟩:=Lw.1 hr
     obtain ⟨o,n,u,ns,ks,al⟩:=x;rfl
 · rw [A8 (by simp)]
set_option maxHeartbeats 8000000 in
theorem dY {i:Nat} {o:Int} {n:Str} {u:Int} {ns:List Str} {ks:List Ex} {al:List Al} (hn:Iw o n u ns ks.length al=true)
 (hk:∀x∈ks,∀lev,EC i x lev)
 (ha:∀x∈al,∀j,WX (fun σ=>σ.blk j=some [.gp i 0]) 143 ([]++[alA x]++[.gp j 0]) i (Rg x)) (lev:Nat) (hlv0:¬lvl (.mk o n u ns ks al) < lev):EC i (.mk o n u ns ks al) lev:=by
 have hko:∀x∈ks,WC 139 [.gp i 0,exA x] i (BO x):=fun x hx=>gG (hk x hx 0)
 intro σ0 σ s hH hb0 hlen
 rw [pl,if_neg hlv0] at hlen ⊢
 have hlv:=jE (.mk o n u ns ks al) σ
 have hlt:decide (lvl (.mk o n u ns ks al) < lev)=false:=decide_eq_false hlv0
 refine KZ (by simp) ?_
 rw [Hw]
 by_cases ho:pB o
 · have hl:=zK hn ho hko ha
   simp only [exA,Ex.AS,AB,AE] at hlv hl ⊢
   generalize lvl (.mk o n u ns ks al)=lv at hlv hlt
   generalize BO (.mk o n u ns ks al)=txt at hl hlen ⊢
   rcases ho with rfl|rfl|rfl|rfl|rfl|rfl
   all_goals (repeat' (first|refine ctQ rfl ?_|((first|refine rgQ mxQ ?_|refine cdQ ?_|(refine AD.mk rfl (hl σ0 σ _ hH hb0 (by (try simp only [AG,AA,AI] at hlen ⊢);omega)) ?_;rintro _ σ1 ⟨rfl,hb1⟩)|refine AD.det (hlv) ?_)<;>try simp -implicitDefEqProofs only [As,ltI,hlt,go_sem])|fail))
   all_goals try simp only [AY,Ae,A6,Ap] at hb1 ⊢
   all_goals exact Run.fin Bn rfl (fun _ _ h=>h) (AK.le_refl _) ⟨rfl,hb1⟩
 by_cases h13:o=13
 · subst h13
   have hn':=hn
   simp only [Iw,AR] at hn'
   obtain ⟨⟨⟨⟨hnm,hnu⟩,hns⟩,has⟩,hnk⟩:=hn'
   simp [nuB] at hnu
   obtain ⟨a,b,rfl⟩:=zG (by simpa [nkB] using hnk)
   have hka:=hk a (by simp) (plL u)
   have hkb:=hk b (by simp) (plR u)
   have hpl:=XC u σ
   have e:BO (.mk 13 n u ns [a,b] al)=pl (plL u) a (BO a)++([32]++(opT u++([32]++pl (plR u) b (BO b)))):=by
    rw [BO,PD];rfl
   rw [e] at hlen ⊢
   clear e
   unfold EC at hka hkb
   generalize pl (plL u) a (BO a)=ta at *
   generalize pl (plR u) b (BO b)=tb at *
   obtain ⟨oa,na,ua,nsa,ksa,ala⟩:=a
   obtain ⟨ob,nb,ub,nsb,ksb,alb⟩:=b
   simp only [exA,Ex.AS,AB,AE] at hka hkb hlv ⊢
   generalize lvl _=lv at hlv hlt
   have hlen2:=hlen
   simp only [AG,AA,AI] at hlen2
   have ha1:=Ha (a:=[32]) (b:=opT u) (by simp only [AG,AI];omega)
   have ha2:=Ha (a:=[32]++opT u) (b:=[32]) (by simp only [AA,AG,AI];omega)
   simp only [Ae,A6] at ha1 ha2
   have hot:=fun σ=>R5 u σ ⟨hnu.1,hnu.2⟩
   (repeat' (first|refine ctQ rfl ?_|((first|refine rgQ mxQ ?_|refine cdQ ?_|(refine AD.mk rfl (hka σ0 σ _ hH hb0 (by (try simp only [AG,AA,AI] at hlen ⊢);omega)) ?_;rintro _ σ1 ⟨rfl,hb1⟩)|refine AD.det (hlv) ?_|refine AD.det (hpl) ?_)<;>try simp -implicitDefEqProofs only [As,ltI,hlt,go_sem])|fail))
   (repeat' (first|refine ctQ rfl ?_|((first|refine rgQ mxQ ?_|refine cdQ ?_|(refine AD.mk rfl (A0 _ hb1 (by (try simp only [AG,AA,AI] at hlen ⊢);omega)) ?_;rintro _ σ2 ⟨rfl,hb2⟩)|refine AD.det (hot _) ?_)<;>try simp -implicitDefEqProofs only [ha1,ha2,go_sem])|fail))
   (repeat' (first|refine ctQ rfl ?_|((first|refine rgQ mxQ ?_|refine cdQ ?_|(refine AD.mk rfl (hkb σ0 σ2 _ hH hb2 (by (try simp only [AG,AA,AI] at hlen ⊢);omega)) ?_;rintro _ σ3 ⟨rfl,hb3⟩))<;>try simp -implicitDefEqProofs only [go_sem])|fail))
   try simp only [AY,Ae,A6] at hb3 ⊢
   exact Run.fin Bn rfl (fun _ _ h=>h) (AK.le_refl _) ⟨rfl,hb3⟩
 by_cases h12:o=12
 · subst h12
   have hn':=hn
   simp only [Iw,AR] at hn'
   obtain ⟨⟨⟨⟨hnm,hnu⟩,hns⟩,has⟩,hnk⟩:=hn'
   cases ks with
   |nil=>simp [nkB] at hnk
   |cons f l=>
   have hli:=pA (i:=i) (ks:=l) (fun x hx=>hko x (Bh _ hx))
   have hf4:=hk f (BB ..) 4
   have hfp:=P0 (hko f (BB ..))
   have e:BO (.mk 12 n u ns (f::l) al)=(if dQ f then Lc (BO f) else pl 4 f (BO f))++L9 (l.map BO):=by
    rw [BO,PD];rfl
   rw [e] at hlen ⊢
   clear e
   unfold EC at hf4
   have hsl:gS (List.map Ex.enc (f::l)) (some (.d (.int .i64 1))) none none 6=some (.d (.sl (l.map Ex.enc))):=xK f l
   generalize hpp:Lc (BO f)=tp at *
   generalize pl 4 f (BO f)=tq at *
   clear hpp
   obtain ⟨of,nf,uf,nsf,ksf,alf⟩:=f
   simp only [exA,Ex.AS,AB,AE] at hf4 hfp hlv hsl ⊢
   generalize lvl _=lv at hlv hlt
   by_cases h6:of=6
   · subst h6
     cases ksf with
     |nil=>
      have hbc:dQ (.mk 6 nf uf nsf [] alf)=true:=rfl
      rw [hbc,if_pos rfl] at hlen ⊢
      simp only [AE] at hf4 hfp hlv hsl ⊢
      (repeat' (first|refine ctQ rfl ?_|((first|refine rgQ mxQ ?_|refine cdQ ?_|(refine AD.mk rfl (hfp σ0 σ _ hH hb0 (by (try simp only [AA] at hlen ⊢);omega)) ?_;rintro _ σ1 ⟨rfl,hb1⟩)|refine AD.det (hlv) ?_)<;>try simp -implicitDefEqProofs only [As,ltI,hlt,hsl,Int.le_refl,if_true,Int.toNat_zero,F8,Cn,AG,AI,go_sem])|(refine ⟨fun h=>?_,fun h=>?_⟩<;>first|(cases h;done)|try simp only [h])|fail))
      (repeat' (first|refine ctQ rfl ?_|((first|refine rgQ mxQ ?_|refine cdQ ?_|(refine AD.mk rfl (hli σ0 σ1 _ hH hb1 (by (try simp only [AA] at hlen ⊢);omega)) ?_;rintro _ σ2 ⟨rfl,hb2⟩))<;>try simp -implicitDefEqProofs only [go_sem])|fail))
      try simp only [AY] at hb2 ⊢
      exact Run.fin Bn rfl (fun _ _ h=>h) (AK.le_refl _) ⟨rfl,hb2⟩
     |cons k1 l1=>
      have hbc:dQ (.mk 6 nf uf nsf (k1::l1) alf)=false:=rfl
      rw [hbc,if_neg (by decide)] at hlen ⊢
      simp only [AB] at hf4 hfp hlv hsl ⊢
      (repeat' (first|refine ctQ rfl ?_|((first|refine rgQ mxQ ?_|refine cdQ ?_|(refine AD.mk rfl (hf4 σ0 σ _ hH hb0 (by (try simp only [AA] at hlen ⊢);omega)) ?_;rintro _ σ1 ⟨rfl,hb1⟩)|refine AD.det (hlv) ?_)<;>try simp -implicitDefEqProofs only [As,ltI,hlt,hsl,Int.le_refl,if_true,Int.toNat_zero,F8,Cn,AG,AI,eqS,AJ,go_sem])|fail))
      (repeat' (first|refine ctQ rfl ?_|((first|refine rgQ mxQ ?_|refine cdQ ?_|(refine AD.mk rfl (hli σ0 σ1 _ hH hb1 (by (try simp only [AA] at hlen ⊢);omega)) ?_;rintro _ σ2 ⟨rfl,hb2⟩))<;>try simp -implicitDefEqProofs only [go_sem])|fail))
      try simp only [AY] at hb2 ⊢
      exact Run.fin Bn rfl (fun _ _ h=>h) (AK.le_refl _) ⟨rfl,hb2⟩
   · have hbc:dQ (.mk of nf uf nsf ksf alf)=false:=by show (of==6&&_)=false;rw [Ch h6];rfl
     rw [hbc,if_neg (by decide)] at hlen ⊢
     (repeat' (first|refine ctQ rfl ?_|((first|refine rgQ mxQ ?_|refine cdQ ?_|(refine AD.mk rfl (hf4 σ0 σ _ hH hb0 (by (try simp only [AA] at hlen ⊢);omega)) ?_;rintro _ σ1 ⟨rfl,hb1⟩)|refine AD.det (hlv) ?_)<;>try simp -implicitDefEqProofs only [As,ltI,hlt,hsl,Int.le_refl,if_true,Int.toNat_zero,F8,Cn,AG,AI,Ch h6,go_sem])|fail))
     (repeat' (first|refine ctQ rfl ?_|((first|refine rgQ mxQ ?_|refine cdQ ?_|(refine AD.mk rfl (hli σ0 σ1 _ hH hb1 (by (try simp only [AA] at hlen ⊢);omega)) ?_;rintro _ σ2 ⟨rfl,hb2⟩))<;>try simp -implicitDefEqProofs only [go_sem])|fail))
     try simp only [AY] at hb2 ⊢
     exact Run.fin Bn rfl (fun _ _ h=>h) (AK.le_refl _) ⟨rfl,hb2⟩
 have hn':=hn
 simp only [Iw,AR] at hn'
 obtain ⟨⟨⟨⟨hnm,hnu⟩,hns⟩,has⟩,hnk⟩:=hn'
 have hop:=AE3 hnk
 have hpo:wL o:=by unfold wL;unfold pB at ho;omega
 have hl:=wN hn hpo hko
 simp only [exA,Ex.AS,AB,AE] at hlv hl ⊢
 generalize lvl (.mk o n u ns ks al)=lv at hlv hlt
 generalize BO (.mk o n u ns ks al)=txt at hl hlen ⊢
 simp only [pB,not_or] at ho
 obtain ⟨h1,h2,h3,h4,h5,h6⟩:=ho
 (repeat' (first|refine ctQ rfl ?_|((first|refine rgQ mxQ ?_|refine cdQ ?_|(refine AD.mk rfl (hl σ0 σ _ hH hb0 (by (try simp only [AG,AA,AI] at hlen ⊢);omega)) ?_;rintro _ σ1 ⟨rfl,hb1⟩)|refine AD.det (hlv) ?_)<;>try simp -implicitDefEqProofs only [ltI,hlt,Ch h1,Ch h2,Ch h3,Ch h4,Ch h5,Ch h6,Ch h12,Ch h13,go_sem])|fail))
 try simp only [AY,Ae,A6,Ap] at hb1 ⊢
 exact Run.fin Bn rfl (fun _ _ h=>h) (AK.le_refl _) ⟨rfl,hb1⟩
theorem qZ {i:Nat} {o:Int} {n:Str} {u:Int} {ns:List Str} {ks:List Ex} {al:List Al} (hn:Iw o n u ns ks.length al=true)
 (hk:∀x∈ks,∀lev,EC i x lev)
 (ha:∀x∈al,∀j,WX (fun σ=>σ.blk j=some [.gp i 0]) 143 ([]++[alA x]++[.gp j 0]) i (Rg x)) (lev:Nat):EC i (.mk o n u ns ks al) lev:=by
 by_cases hlv0:lvl (.mk o n u ns ks al) < lev
 · have hpa:=P0 (gG (dY hn hk ha 0 (by omega)))
   intro σ0 σ s hH hb0 hlen
   rw [pl,if_pos hlv0] at hlen ⊢
   have hlv:=jE (.mk o n u ns ks al) σ
   have hlt:decide (lvl (.mk o n u ns ks al) < lev)=true:=decide_eq_true hlv0
   refine KZ (by simp) ?_
   rw [Hw]
   simp only [exA,Ex.AS,AB,AE] at hlv hpa ⊢
   generalize lvl (.mk o n u ns ks al)=lv at hlv hlt
   generalize Lc (BO (.mk o n u ns ks al))=txt at hpa hlen ⊢
   (repeat' (first|refine ctQ rfl ?_|((first|refine rgQ mxQ ?_|refine cdQ ?_|(refine AD.mk rfl (hpa σ0 σ _ hH hb0 (by (try simp only [AG,AA,AI] at hlen ⊢);omega)) ?_;rintro _ σ1 ⟨rfl,hb1⟩)|refine AD.det (hlv) ?_)<;>try simp -implicitDefEqProofs only [ltI,hlt,go_sem])|fail))
   exact Run.FT Bn (AK.le_refl _) ⟨rfl,hb1⟩
 · exact dY hn hk ha lev hlv0
mutual
theorem fP (i:Nat):∀(e:Ex),e.nb→∀lev,EC i e lev
 | .mk o n u ns ks al,h,lev=>by
  rw [Ex.nb] at h
  exact qZ h.1 (iL i ks h.2.1) (oK i al h.2.2) lev
theorem iL (i:Nat):∀(l:List Ex),Ex.nbs l→∀x∈l,∀lev,EC i x lev
 |[],_,x,hx,_=>by cases hx
 |e::l,h,x,hx,lev=>by
  rw [Ex.nbs] at h
  rcases Cm.1 hx with hxe|hx
  · rw [hxe];exact fP i e h.1 lev
  · exact iL i l h.2 x hx lev
theorem oK (i:Nat):∀(l:List Al),Al.nbs l→∀x∈l,∀j,WX (fun σ=>σ.blk j=some [.gp i 0]) 143 ([]++[alA x]++[.gp j 0]) i (Rg x)
 |[],_,x,hx,_=>by cases hx
 | .mk c vs b::l,h,x,hx,j=>by
  rw [Al.nbs,Al.nb] at h
  rcases Cm.1 hx with hxe|hx
  · rw [hxe];exact ACF j (gG (fP i b h.1 0))
  · exact oK i l h.2 x hx j
end
end Go.Ab
namespace Go.Ab
open Go.Proofs
theorem yQ:Av Tryz.prog 82=true:=by kernel_rfl
theorem ADW:Av Tryz.prog 84=true:=by kernel_rfl
theorem AA0:Av Tryz.prog 80=true:=by kernel_rfl
theorem yR {i:Nat} (j:Nat) {c:CE} (h:Vg c=true):
 WX (fun σ=>σ.blk j=some [.gp i 0]) 82 ([]++[ceA c]++[.gp j 0]) i (fmtC c):=by
 intro σ0 σ s hH0 hb0 hlen
 have hjs:=hH0.1
 have hH:(fun _=>True) σ0∧σ0.gt TD=some VJ:=⟨trivial,hH0.2⟩
 obtain ⟨n,l⟩:=c
 simp only [Vg,AR,decide_eq_true_eq,A7] at h
 have hop:=IQ (H:=fun _=>True) i (first:=[.gp i 0]) (caps:=[]) ADW ⟨rfl,rfl⟩ Es l (fun x hx=>xW i 40 x (h.2 x hx))
 refine PO (by simp) ?_
 show Run _ _ _ (Ak [_,_]) _ _
 rw [BH]
 rw [fmtC] at hlen ⊢
 simp only [ceA,CE.enc,AB,AE] at hlen ⊢
 (repeat' (first|refine ctQ rfl ?_|((first|refine rgQ mxQ ?_|refine cdQ ?_|(refine AD.mk rfl (A0 n hb0 (by (try simp only [AA] at hlen ⊢);omega)) ?_;rintro _ σ1 ⟨rfl,hb1⟩))<;>try simp -implicitDefEqProofs only [(hb0.le.blk j _ hjs),go_sem])|fail))
 try simp -implicitDefEqProofs only [(hb1.le.blk j _ hjs),go_sem]
 (repeat' (first|refine ctQ rfl ?_|((first|refine rgQ mxQ ?_|refine cdQ ?_|(refine AD.mk rfl (hop σ0 σ1 _ hH hb1 (by (try simp only [AA] at hlen ⊢);omega)) ?_;rintro _ σ2 ⟨rfl,hb2⟩))<;>try simp -implicitDefEqProofs only [go_sem])|fail))
 try simp only [AY] at hb2 ⊢
 exact Run.fin Iu rfl (fun _ _ h=>h) (AK.le_refl _) ⟨rfl,hb2⟩
theorem yT {i:Nat} {d:DE} (h:JY d=true):WC 42 [.gp i 0,deA d] i (Wk d):=by
 intro σ0 σ s hH hbu hlen
 obtain ⟨n,vs,cs⟩:=d
 simp only [JY,AR,decide_eq_true_eq,A7] at h
 have hvs:=N1 (H:=fun _=>True) i (first:=[.gp i 0]) (caps:=[]) AA0 ⟨rfl,rfl⟩ id vs (fun x _=>AA1 i x)
 rw [List.map_id] at hvs
 refine Rm (by simp) ?_
 rw [BH]
 rw [Wk] at hlen ⊢
 simp only [deA,DE.enc,AB,AE] at hlen ⊢
 (repeat' (first|refine ctQ rfl ?_|((first|refine rgQ mxQ ?_|refine cdQ ?_)<;>try simp -implicitDefEqProofs only [go_sem])|fail))
 intro j hj
 have hun:∀s' σ',BuS (σ0.AH j [.gp i 0]) i s' σ'→BuS σ0 i s' σ':=fun s' σ' h=>hbu.qA hj h
 have hjs:(σ0.AH j [.gp i 0]).blk j=some [.gp i 0]:=by simp [AZ]
 have hH:(fun _=>True) (σ0.AH j [.gp i 0])∧(σ0.AH j [.gp i 0]).gt TD=some VJ:=⟨trivial,hH.2⟩
 have hb0:=hbu.share (cs:=[.gp i 0]) hj
 generalize σ.AH j [.gp i 0]=τ at hb0 ⊢
 generalize σ0.AH j [.gp i 0]=τ0 at hun hjs hH hb0
 have hHj:(fun σ=>σ.blk j=some [.gp i 0]) τ0∧τ0.gt TD=some VJ:=⟨hjs,hH.2⟩
 have hsep:=Oi (H:=fun σ=>σ.blk j=some [.gp i 0]) i (first:=[]) (caps:=[.gp j 0]) yQ ⟨rfl,rfl⟩ [32,124,32] fmtC cs (fun x hx=>yR j (h.2 x hx))
 have ha1:=Ha (a:=[100,97,116,97,32]) (b:=n) (by simp only [AA,AG,AI] at hlen ⊢;omega)
 simp only [Ae,A6] at ha1
 (repeat' (first|refine ctQ rfl ?_|((first|refine rgQ mxQ ?_|refine cdQ ?_|(refine AD.mk rfl (A0 _ hb0 (by (try simp only [AG,AA,AI] at hlen ⊢);omega)) ?_;rintro _ σ1 ⟨rfl,hb1⟩))<;>try simp -implicitDefEqProofs only [ha1,(hb0.le.blk j _ hjs),go_sem])|fail))
 try simp -implicitDefEqProofs only [(hb1.le.blk j _ hjs),go_sem]
 (repeat' (first|refine ctQ rfl ?_|((first|refine rgQ mxQ ?_|refine cdQ ?_|(refine AD.mk rfl (hvs τ0 σ1 _ hH hb1 (by (try simp only [AG,AA,AI] at hlen ⊢);omega)) ?_;rintro _ σ2 ⟨rfl,hb2⟩))<;>try simp -implicitDefEqProofs only [go_sem])|fail))
 try simp -implicitDefEqProofs only [(hb2.le.blk j _ hjs),go_sem]
 (repeat' (first|refine ctQ rfl ?_|((first|refine rgQ mxQ ?_|refine cdQ ?_|(refine AD.mk rfl (A0 [32,61,32] hb2 (by (try simp only [AG,AA,AI] at hlen ⊢);omega)) ?_;rintro _ σ3 ⟨rfl,hb3⟩))<;>try simp -implicitDefEqProofs only [go_sem])|fail))
 try simp -implicitDefEqProofs only [(hb3.le.blk j _ hjs),go_sem]
 (repeat' (first|refine ctQ rfl ?_|((first|refine rgQ mxQ ?_|refine cdQ ?_|(refine AD.mk rfl (hsep τ0 σ3 _ hHj hb3 (by (try simp only [AG,AA,AI] at hlen ⊢);omega)) ?_;rintro _ σ4 ⟨rfl,hb4⟩))<;>try simp -implicitDefEqProofs only [go_sem])|fail))
 try simp -implicitDefEqProofs only [(hb4.le.blk j _ hjs),go_sem]
 (repeat' (first|refine ctQ rfl ?_|((first|refine rgQ mxQ ?_|refine cdQ ?_|(refine AD.mk rfl (A0 [59,10] hb4 (by (try simp only [AG,AA,AI] at hlen ⊢);omega)) ?_;rintro _ σ5 ⟨rfl,hb5⟩))<;>try simp -implicitDefEqProofs only [go_sem])|fail))
 try simp only [AY,Ae,A6] at hb5 ⊢
 exact Run.fin KS rfl (fun _ _ h=>h) (AK.le_refl _) ⟨rfl,hun _ _ hb5⟩
theorem fF {α:Type} {f:α→Str} {l:List α} {k:Nat} {x:α} (h:l[k]?=some x):((l.take (k+1)).map f).flatten=((l.take k).map f).flatten++f x:=by
 rw [My h];simp
theorem bW {α:Type} (f:α→Str) (l:List α) (k:Nat):((l.take k).map f).flatten.length≤(l.map f).flatten.length:=by
 have:((l.map f).flatten).length=((l.take k).map f).flatten.length+((l.drop k).map f).flatten.length:=by
  rw [← AA,← Ma,← Ax,Gt]
 omega
set_option maxHeartbeats 4000000 in
theorem X7 (p:Pg) (σ:AK) (hp:σ.gt TD=some VJ) (hs:∀d∈p.data,∀c∈d.cons,∀t∈c.args,t.size≤100000):
 AP Tryz.prog 17 [pgA p] σ (fun v σ'=>v= .d (.str (if DM p then rC p else []))∧σ'=σ):=by
 have hv:=R7 p σ (fun d hd c hc t ht=>Ay (hs d hd c hc t ht) (by decide))
 refine YT (by simp) ?_
 rw [Ar]
 cases hval:DM p with
 |false=>
  rw [hval] at hv
  obtain ⟨ds,fs⟩:=p
  simp only [pgA,Pg.enc,AB,AE,AL,if_false] at hv ⊢
  (repeat' (first|refine ctQ rfl ?_|((first|refine rgQ mxQ ?_|refine cdQ ?_|(refine Run.A2 MD (σ2:=σ) (AK.le_refl _) ?_)|refine AD.det (hv) ?_)<;>try simp -implicitDefEqProofs only [go_sem])|fail))
 |true=>
 rw [hval] at hv
 have hlen:=y4 hval hs
 obtain ⟨⟨hd12,hda⟩,hf24,hfa⟩:=T0 hval
 obtain ⟨ds,fs⟩:=p
 simp only [pgA,Pg.enc,AB,AE,if_true] at hv hd12 hda hf24 hfa ⊢
 rw [rC,AA] at hlen
 simp only at hlen
 (repeat' (first|refine ctQ rfl ?_|((first|refine rgQ mxQ ?_|refine cdQ ?_|(refine XEx.iD rfl rfl rfl (fun i hi=>?_))|refine AD.det (hv) ?_)<;>try simp -implicitDefEqProofs only [AJ,go_sem])|fail))
 have hbu0:=qR hi
 have hbk0:((σ.AH i [.FN,.AO]).HI i (2,87)).blk i=some [.FN,.AO]:=by simp [AK.HI,AK.AH]
 generalize (σ.AH i [AV.FN,.AO]).HI i (2,87)=τ0 at hbu0 hbk0 ⊢
 (repeat' (first|refine ctQ rfl ?_|((first|refine rgQ mxQ ?_|refine cdQ ?_)<;>try simp -implicitDefEqProofs only [AJ,go_sem])|fail))
 refine Run.BU ?_
 refine Run.BZ ((fun (a1:AV) (a3:AV) (a14:AV) (a15:AV)=>fun (y:Nat×List UInt8×AK)=>put 1 a1 (put 3 a3 (put 14 a14 (put 15 a15 (put 16 (.d (.int .i64 y.1)) U))))) _ _ _ _) (fun _=>Aq 1 [.d (.sl (ds.map DE.enc)),.d (.sl (fs.map FE.enc))] E) (fun y=>y.2.2)
  (fun y=>y.1≤ds.length∧BuS σ i y.2.1 y.2.2∧y.2.1=((ds.take y.1).map Wk).flatten∧(y.2.1=[]→∃p,y.2.2.blk i=some [p,.AO])) (fun y=>ds.length - y.1) ?_ (0,[],τ0) ⟨by simp,hbu0,by simp,fun _=>⟨_,hbk0⟩⟩
 rintro ⟨k,s1,τ⟩ ⟨hk,hb1,hs1,he1⟩ ih
 simp only at hk hb1 hs1 he1
 by_cases hlt:k < ds.length
 · obtain ⟨d,hd⟩:=CF hlt
   have he:=Bq (enc:=DE.enc) hd
   have hw1:IntKind.i64.wrap ((k:Int)+1)=((k+1:Nat):Int):=by rw [BF (by omega) (by omega)];omega
   have hdo:=yT (i:=i) (hda d (Aa hd))
   have htf:=fF (f:=Wk) hd
   have hle:=bW Wk ds (k+1)
   have hne:Wk d≠[]:=by rw [Wk];simp
   rw [htf,← hs1,AA] at hle
   have hc:=hdo σ τ s1 ⟨trivial,hp⟩ hb1 (by omega)
   generalize Wk d=x at hc htf hne hle
   obtain ⟨n,vs,cs⟩:=d
   simp only [deA,DE.enc,AB,AE] at he hc
   (repeat' (first|refine ctQ rfl ?_|((first|refine rgQ mxQ ?_|refine cdQ ?_|(refine AD.mk rfl hc ?_;rintro _ σ1 ⟨rfl,hb2⟩))<;>try simp -implicitDefEqProofs only [B1 hlt,he,hw1,go_sem])|fail))
   (repeat' (first|refine ctQ rfl ?_|((first|refine rgQ mxQ ?_|refine cdQ ?_)<;>try simp -implicitDefEqProofs only [hw1,go_sem])|fail))
   exact ih (k+1,_,σ1) ⟨by simp only;omega,hb2,by simp only;rw [htf,hs1],fun h=>absurd (List.append_eq_nil_iff.1 h).2 hne⟩ (by simp only;omega)
 have hke:k=ds.length:=by omega
 rw [hke,List.take_length] at hs1
 (repeat' (first|refine ctQ rfl ?_|((first|refine rgQ mxQ ?_|refine cdQ ?_)<;>try simp -implicitDefEqProofs only [Ff hlt,AJ,go_sem])|fail))
 refine Run.BU ?_
 refine Run.BZ ((fun (a3:AV) (a25:AV) (a26:AV)=>fun (y:Nat×List UInt8×AK)=>put 3 a3 (put 25 a25 (put 26 a26 (put 27 (.d (.int .i64 y.1)) U)))) _ _ _) (fun _=>E) (fun y=>y.2.2)
  (fun y=>y.1≤fs.length∧BuS σ i y.2.1 y.2.2∧y.2.1=(ds.map Wk).flatten++((fs.take y.1).map Z9).flatten∧(y.2.1=[]→∃p,y.2.2.blk i=some [p,.AO])) (fun y=>fs.length - y.1) ?_ (0,s1,τ) ⟨by simp,hb1,by simp [hs1],he1⟩
 rintro ⟨q,s2,τ2⟩ ⟨hq,hq1,hs2,he2⟩ ih2
 simp only at hq hq1 hs2 he2
 by_cases hlt2:q < fs.length
 · obtain ⟨d,hd⟩:=CF hlt2
   have he:=Bq (enc:=FE.enc) hd
   have hw1:IntKind.i64.wrap ((q:Int)+1)=((q+1:Nat):Int):=by rw [BF (by omega) (by omega)];omega
   obtain ⟨hhd,hnb,hsz⟩:=hfa d (Aa hd)
   have htf:=fF (f:=Z9) hd
   have hle:=bW Z9 fs (q+1)
   have hne:Z9 d≠[]:=by rw [Z9];simp
   rw [htf,AA] at hle
   have hl2:s2.length+(Z9 d).length≤10000000000:=by rw [hs2,AA];omega
   have hex:=fP i d.body hnb 0
   unfold EC at hex
   rw [pl,if_neg (by omega)] at hex
   rw [Z9] at hl2 htf hne
   simp only [Xn,AR,decide_eq_true_eq] at hhd
   obtain ⟨n,ps,b⟩:=d
   simp only at hl2 htf hne hex hhd
   generalize BO b=tb at *
   obtain ⟨ob,nb,ub,nsb,ksb,alb⟩:=b
   simp only [exA,FE.enc,Ex.AS,AB,AE] at he hex
   have hlen2:=hl2
   simp only [L9,Lc,cms,AA,AG,AI] at hlen2
   have hjn:=fun σ=>oI ps [44,32] σ (by omega) (by omega)
   have ha1:=Ha (a:=[102,117,110,32]) (b:=n) (by simp only [AG,AI];omega)
   have ha2:=Ha (a:=[102,117,110,32]++n) (b:=[40]) (by simp only [AA,AG,AI];omega)
   have ha3:=Ha (a:=[102,117,110,32]++n++[40]) (b:=Lib.join ps [44,32]) (by simp only [AA,AG,AI];omega)
   have ha4:=Ha (a:=[102,117,110,32]++n++[40]++Lib.join ps [44,32]) (b:=[41,32,61,32]) (by simp only [AA,AG,AI];omega)
   simp only [Ae,A6] at ha1 ha2 ha3 ha4
   (repeat' (first|refine ctQ rfl ?_|((first|refine rgQ mxQ ?_|refine cdQ ?_|(refine AD.mk rfl (A0 _ hq1 (by simp only [AA,AG,AI];omega)) ?_;rintro _ σ1 ⟨rfl,hb2⟩)|refine AD.det (hjn _) ?_)<;>try simp -implicitDefEqProofs only [B1 hlt2,he,ha1,ha2,ha3,ha4,go_sem])|fail))
   (repeat' (first|refine ctQ rfl ?_|((first|refine rgQ mxQ ?_|refine cdQ ?_|(refine AD.mk rfl (hex σ σ1 _ ⟨trivial,hp⟩ hb2 (by simp only [AA,AG,AI];omega)) ?_;rintro _ σ2 ⟨rfl,hb3⟩))<;>try simp -implicitDefEqProofs only [go_sem])|fail))
   (repeat' (first|refine ctQ rfl ?_|((first|refine rgQ mxQ ?_|refine cdQ ?_|(refine AD.mk rfl (A0 _ hb3 (by simp only [AA,AG,AI];omega)) ?_;rintro _ σ3 ⟨rfl,hb4⟩))<;>try simp -implicitDefEqProofs only [hw1,go_sem])|fail))
   (repeat' (first|refine ctQ rfl ?_|((first|refine rgQ mxQ ?_|refine cdQ ?_)<;>try simp -implicitDefEqProofs only [hw1,go_sem])|fail))
   refine ih2 (q+1,_,σ3) ⟨by simp only;omega,hb4,?_,fun h=>?_⟩ (by simp only;omega)
   · simp only
     rw [htf,hs2]
     simp [L9,Lc,cms]
   · simp at h
 have hqe:q=fs.length:=by omega
 rw [hqe,List.take_length] at hs2
 have hst:=qD hq1 he2
 (repeat' (first|refine ctQ rfl ?_|((first|refine rgQ mxQ ?_|refine cdQ ?_|(refine AD.mk rfl hst ?_;rintro _ σ1 ⟨rfl,hle1⟩)|(refine Run.A2 MD (σ2:=σ) hle1 ?_))<;>try simp -implicitDefEqProofs only [Ff hlt2,go_sem])|fail))
 rw [hs2];rfl
end Go.Ab
namespace Go.Ab
def mH (q:Nat) {α:Type} (read:PM α) (t:Str) (ht:t≠[]):PM (List α):=read.bind fun x=>Bp read t ht q [x]
def Vw (q:Nat) {α:Type} (read:PM α):PM (List α):=(mH q read [44] (by decide)).bind fun l=>(PM.exp [41] (by decide)).bind fun _=>.pure l
def Yj (q:Nat) {α:Type} (read:PM α):PM (List α):= .acc [41] (by decide) (.pure []) (Vw q read)
def jG (q:Nat) {α:Type} (read:PM α):PM (List α):= .acc [40] (by decide) (Vw q read) (.pure [])
def Xw (q:Nat):Nat→PM TE
 |0=>.fail (.mk 0 [] [])
 |n+1=>
  .kind 1 (E3.bind fun x=>.pure (.mk 4 x [])) <|
  .kind 2 (Dx.bind fun x=>(jG q (Xw q n)).bind fun l=>.pure (.mk 5 x l)) <|
  Bf [105,110,116] (.pure (.mk 1 [] [])) <|
  Bf [98,111,111,108] (.pure (.mk 2 [] [])) <|
  Bf [117,110,105,116] (.pure (.mk 3 [] [])) <|
  Bf [97,114,114,97,121] (OQ 7 (Xw q n)) <|
  Bf [114,101,102] (OQ 8 (Xw q n)) <|
  Bf [40] ((Xw q n).bind fun a=>(C1 [44]).bind fun _=>(Vw q (Xw q n)).bind fun l=>.pure (.mk 6 [] (a::l))) <|
  Bf [102,110] ((C1 [40]).bind fun _=>(Yj q (Xw q n)).bind fun l=>(C1 [45,62]).bind fun _=>(Xw q n).bind fun t=>.pure (.mk 9 [] (l++[t]))) <|
  .fail (.mk 0 [] [])
def AE9 (q:Nat) (E:PM Ex):PM Ex:=
 Bf [40] (FJ.bind fun a=>(C1 [44]).bind fun _=>(Vw q FJ).bind fun l=>(C1 [61]).bind fun _=>E.bind fun x=>(C1 [105,110]).bind fun _=>E.bind fun y=>.pure (.mk 8 [] 0 (a::l) [x,y] []))
  (FJ.bind fun a=>(C1 [61]).bind fun _=>E.bind fun x=>(C1 [105,110]).bind fun _=>E.bind fun y=>.pure (.mk 7 a 0 [] [x,y] []))
def AE6 (q:Nat) (E:PM Ex):PM Al:=Dx.bind fun c=>(jG q FJ).bind fun l=>(C1 [45,62]).bind fun _=>E.bind fun x=>.pure (.mk c l x)
def AFA (q:Nat) (E:PM Ex):PM Ex:=
 Bf [41] (.pure (exN 1 0 [])) (E.bind fun x=>Bf [41] (.pure x) ((C1 [44]).bind fun _=>(Vw q E).bind fun l=>.pure (exN 5 0 (x::l))))
def ADG (q:Nat) (E:PM Ex):PM Ex:=
 .kind 3 (JH.bind fun n=>.pure (exN 3 n [])) <|
 .kind 1 (E3.bind fun x=>.pure (.mk 4 x 0 [] [] [])) <|
 .kind 2 (Dx.bind fun x=>(jG q E).bind fun l=>.pure (.mk 6 x 0 [] l [])) <|
 Bf [45] (JH.bind fun n=>.pure (exN 3 (-n) [])) <|
 Bf [116,114,117,101] (.pure (exN 2 1 [])) <|
 Bf [102,97,108,115,101] (.pure (exN 2 0 [])) <|
 Bf [40] (AFA q E) <|
 Bf [116,105,99,107] WD <|
 Bf [114,97,105,115,101] ((Jf E).bind fun l=>.pure (exN 16 0 l)) <|
 Bf [110,101,119] ((N2 E).bind fun l=>.pure (exN 14 1 l)) <|
 Bf [103,101,116] ((N2 E).bind fun l=>.pure (exN 14 2 l)) <|
 Bf [115,101,116] ((Zx E).bind fun l=>.pure (exN 14 3 l)) <|
 Bf [108,101,110] ((Jf E).bind fun l=>.pure (exN 14 4 l)) <|
 Bf [114,101,102] ((Jf E).bind fun l=>.pure (exN 14 5 l)) <|
 Bf [114,101,97,100] ((Jf E).bind fun l=>.pure (exN 14 6 l)) <|
 Bf [119,114,105,116,101] ((N2 E).bind fun l=>.pure (exN 14 7 l)) <|
 .fail (exN 0 0 [])
def ABR (q:Nat) (E:PM Ex):Nat→Ex→PM Ex
 |0,a=>.pure a
 |n+1,a=>Bf [40] ((Yj q E).bind fun l=>ABR q E n (exN 12 0 (a::l))) (.pure a)
def pH (q:Nat) (E:PM Ex):PM Ex:=(ADG q E).bind fun a=>ABR q E q a
def gJ (q:Nat) (E:PM Ex):Nat→Ex→PM Ex
 |0,a=>.pure a
 |n+1,a=>
  Bf [42] ((pH q E).bind fun b=>gJ q E n (E1 3 a b)) <|
  Bf [47] ((pH q E).bind fun b=>gJ q E n (E1 4 a b)) <|
  Bf [37] ((pH q E).bind fun b=>gJ q E n (E1 5 a b)) <|
  .pure a
def mS (q:Nat) (E:PM Ex):PM Ex:=(pH q E).bind fun a=>gJ q E q a
def xQ (q:Nat) (E:PM Ex):Nat→Ex→PM Ex
 |0,a=>.pure a
 |n+1,a=>
  Bf [43] ((mS q E).bind fun b=>xQ q E n (E1 1 a b)) <|
  Bf [45] ((mS q E).bind fun b=>xQ q E n (E1 2 a b)) <|
  .pure a
def pI (q:Nat) (E:PM Ex):PM Ex:=(mS q E).bind fun a=>xQ q E q a
def ADE (q:Nat) (E:PM Ex):PM Ex:=(pI q E).bind fun a=>
 Bf [60] ((pI q E).bind fun b=>.pure (E1 6 a b)) <|
 Bf [60,61] ((pI q E).bind fun b=>.pure (E1 7 a b)) <|
 Bf [61,61] ((pI q E).bind fun b=>.pure (E1 8 a b)) <|
 .pure a
def N3 (q:Nat):Nat→PM Ex
 |0=>.fail (exN 0 0 [])
 |n+1=>
  Bf [108,101,116] (AE9 q (N3 q n)) <|
  Bf [105,102] ((N3 q n).bind fun a=>(C1 [116,104,101,110]).bind fun _=>(N3 q n).bind fun b=>(C1 [101,108,115,101]).bind fun _=>(N3 q n).bind fun c=>.pure (exN 9 0 [a,b,c])) <|
  Bf [109,97,116,99,104] ((N3 q n).bind fun a=>(C1 [119,105,116,104]).bind fun _=>(mH q (AE6 q (N3 q n)) [124] (by decide)).bind fun l=>(C1 [101,110,100]).bind fun _=>.pure (.mk 10 [] 0 [] [a] l)) <|
  Bf [102,110] ((C1 [40]).bind fun _=>(Yj q E3).bind fun l=>(C1 [45,62]).bind fun _=>(N3 q n).bind fun a=>.pure (.mk 11 [] 0 l [a] [])) <|
  Bf [116,114,121] ((N3 q n).bind fun a=>(C1 [99,97,116,99,104]).bind fun _=>FJ.bind fun x=>(C1 [45,62]).bind fun _=>(N3 q n).bind fun b=>(C1 [101,110,100]).bind fun _=>.pure (.mk 17 x 0 [] [a,b] [])) <|
  ADE q (N3 q n)
def AF4 (q:Nat):PM TE:=Xw q q
def AFY (q:Nat):PM Ex:=N3 q q
def AE7 (q:Nat):PM CE:=Dx.bind fun c=>(jG q (AF4 q)).bind fun l=>.pure ⟨c,l⟩
def ADF (q:Nat):PM DE:=Dx.bind fun d=>(jG q E3).bind fun vs=>(C1 [61]).bind fun _=>(mH q (AE7 q) [124] (by decide)).bind fun cs=>(C1 [59]).bind fun _=>.pure ⟨d,vs,cs⟩
def AE8 (q:Nat):PM FE:=E3.bind fun f=>(C1 [40]).bind fun _=>(Yj q E3).bind fun ps=>(C1 [61]).bind fun _=>(AFY q).bind fun b=>(C1 [59]).bind fun _=>.pure ⟨f,ps,b⟩
def gK (q:Nat):Nat→List DE→List FE→PM Pg
 |0,ds,fs=>.pure ⟨ds,fs⟩
 |n+1,ds,fs=>
  .kind 6 (.pure ⟨ds,fs⟩) <|
  Bf [100,97,116,97] ((ADF q).bind fun d=>gK q n (ds++[d]) fs) <|
  Bf [102,117,110] ((AE8 q).bind fun f=>gK q n ds (fs++[f])) <|
  (PM.fail ()).bind fun _=>gK q n ds fs
def nC (q:Nat):PM Pg:=gK q q [] []
theorem AAE:Lf=nC Af:=by kernel_rfl
def ZT:Str:=[102,117,110,32,102,40,120,41,61,105,102,32,120,60,61,48,32,116,104,101,110,40,41,32,101,108,115,101,32,102,40,120,45,49,41,59]
def nmE (s:Str):Ex:= .mk 4 s 0 [] [] []
def awE:Ex:= .mk 9 [] 0 [] [.mk 13 [] 7 [] [nmE [120],.mk 3 [] 0 [] [] []] [],.mk 1 [] 0 [] [] [],.mk 12 [] 0 [] [nmE [102],.mk 13 [] 2 [] [nmE [120],.mk 3 [] 1 [] [] []] []] []] []
def awQ:Pg:=⟨[],[⟨[102],[[120]],awE⟩]⟩
theorem yL (m:Nat):((nC (m+60)).run ⟨(Au ZT).1,false,0⟩).1=awQ∧((nC (m+60)).run ⟨(Au ZT).1,false,0⟩).2.f=false:=⟨by kernel_rfl,by kernel_rfl⟩
theorem dP:DM awQ=true:=by decide+kernel
theorem qL:(Au ZT).2.2=0:=by decide+kernel
theorem qK:(Ew ZT).1=awQ∧(Ew ZT).2.2=0:=by
 obtain ⟨m,hm⟩:∃m,Af=m+60:=⟨Af - 60,by have:=Bo;omega⟩
 obtain ⟨h1,h2⟩:=yL m
 unfold Ew
 rw [AAE,hm,if_neg (by rw [qL];decide),h2,if_neg (by decide),h1,dP,if_pos rfl]
 exact ⟨rfl,rfl⟩
end Go.Ab
namespace Go.Ab
open Go.Proofs
def AEN:Str:=[102,117,110,32,102,40,120,41,32,61,32,105,102,32,120,32,60,61,32,48,32,116,104,101,110,32,40,41,32,101,108,115,101,32,102,40,120,32,45,32,49,41,59,10]
theorem oU:Lib.itoa 0=[48]∧Lib.itoa 1=[49]:=by
 constructor<;>simp [Lib.itoa,Lib.decDigits]
theorem yM:rC awQ=AEN:=by
 have h0:=oU.1
 have h1:=oU.2
 have e1:BO (.mk 3 [] 0 [] [] [])=[48]:=by rw [← h0];rfl
 have e2:BO (.mk 3 [] 1 [] [] [])=[49]:=by rw [← h1];rfl
 have e3:BO (.mk 13 [] 7 [] [nmE [120],.mk 3 [] 0 [] [] []] [])=[120,32,60,61,32]++BO (.mk 3 [] 0 [] [] []):=rfl
 have e4:BO (.mk 13 [] 2 [] [nmE [120],.mk 3 [] 1 [] [] []] [])=[120,32,45,32]++BO (.mk 3 [] 1 [] [] []):=rfl
 have e6:BO (.mk 12 [] 0 [] [nmE [102],.mk 13 [] 2 [] [nmE [120],.mk 3 [] 1 [] [] []] []] [])=[102,40]++(Lib.join [BO (.mk 13 [] 2 [] [nmE [120],.mk 3 [] 1 [] [] []] [])] [44,32]++[41]):=rfl
 have e7:BO awE=[105,102,32]++(BO (.mk 13 [] 7 [] [nmE [120],.mk 3 [] 0 [] [] []] [])++([32,116,104,101,110,32]++([40,41]++([32,101,108,115,101,32]++BO (.mk 12 [] 0 [] [nmE [102],.mk 13 [] 2 [] [nmE [120],.mk 3 [] 1 [] [] []] []] []))))):=rfl
 have e8:rC awQ=(([102,117,110,32]++([102]++(L9 [[120]]++([32,61,32]++(BO awE++[59,10])))))++[]):=rfl
 have e9:L9 [[120]]=[40,120,41]:=by decide
 rw [e8,e7,e6,Lib.join_one,e3,e4,e1,e2,e9];rfl
theorem Zs (σ:AK) (hg:ZG σ) (hp:σ.gt TD=some VJ):AP Tryz.prog 15 [] σ (fun v σ'=>v= .d (.bool true)∧σ'=σ):=by
 have hpa:=R6 ZT σ hg
 have hfm:=X7 awQ σ hp (fun d hd=>by cases hd)
 rw [dP,if_pos rfl,yM] at hfm
 obtain ⟨h1,h2⟩:=qK
 generalize Ew ZT=r at hpa h1 h2
 obtain ⟨q,at',code⟩:=r
 simp only at h1 h2
 subst h1 h2
 simp only [Y0,pgA,Pg.enc,AB,AE] at hpa hfm
 refine cU (by simp) ?_
 rw [show Ak []=U from by funext s;simp [Ak,U]]
 (repeat' (first|refine ctQ rfl ?_|((first|refine rgQ mxQ ?_|refine cdQ ?_|refine Run.A2 U8 (AK.le_refl _) ?_|refine AD.det (hpa) ?_|refine AD.det (hfm) ?_)<;>try simp -implicitDefEqProofs only [As,go_sem])|fail))
 exact ⟨rfl,rfl⟩
end Go.Ab
namespace Go.Ab
open Go.Proofs
end Go.Ab
namespace Go.Ab
open Go.Proofs
end Go.Ab
namespace Go.Ab
open Go.Proofs
end Go.Ab
