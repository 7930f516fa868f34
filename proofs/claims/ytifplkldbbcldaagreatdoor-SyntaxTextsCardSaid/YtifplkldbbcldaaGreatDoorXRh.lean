/- The printer: expressions. Lengths of texts. Conditions: none. -/
import Derived.Lib.ItoaLen
import Derived.Test.YtifplkldbbcldaaGreatDoorXRe
set_option linter.unusedSimpArgs false
set_option linter.unusedVariables false
set_option maxRecDepth 4000
set_option maxHeartbeats 8000000
open List renaming all_eq_true→A4,mem_cons→By,mem_map→K3,take_of_length_le→Aq,map_cons→AE,map_nil→AH,length_cons→AD,length_append→AA,length_nil→AF,append_assoc→AS,cons_append→AX,nil_append→A6,append_nil→A1,mem_cons_of_mem→Ae,mem_cons_self→A9,getElem?_cons_zero→C8,length_map→AI,flatten_cons→CZ
open Int renaming reduceBEq→A5,toNat_zero→NJ
open Bool renaming and_eq_true→AK,or_eq_true→BJ,false_eq_true→AY
open Option renaming bind_some→BZ,bind_eq_bind→AR,bind_eq_some_iff→AB,isSome_iff_exists→Ul
open Nat renaming succ_mul→K4,mul_le_mul_right→Aj
namespace Go.Ab
open Go.Proofs
theorem ltI (a b:Nat):decide ((a:Int) < (b:Int))=decide (a < b):=decide_eq_decide.2 (by omega)
theorem eqS (n:Nat):(((n+1:Nat):Int)==0)=false:=Ds (by omega)
theorem mY (f:Ex) (l:List Ex):Yp (List.map Ex.enc (f::l)) (some (.d (.int .i64 1))) none none 6=some (.d (.sl (l.map Ex.enc))):=by
 simp [Yp,Vc,UF]
 refine ⟨?_,?_⟩
 · rw [cT,A4]
   intro r hr
   rw [beq_iff_eq]
   rcases By.1 hr with rfl|hr
   · obtain ⟨o,n,u,ns,ks,al⟩:=f;rfl
   · obtain ⟨x,_,rfl⟩:=K3.1 hr
     obtain ⟨o,n,u,ns,ks,al⟩:=x;rfl
 · rw [Aq (by simp)]
set_option maxHeartbeats 8000000 in
theorem Xf {i:Nat} {o:Int} {n:Str} {u:Int} {ns:List Str} {ks:List Ex} {al:List Al} (hn:G5 o n u ns ks.length al=true)
 (hk:∀x∈ks,∀lev,EC i x lev)
 (ha:∀x∈al,∀j,WX (fun σ=>σ.blk j=some [.gp i 0]) 143 ([]++[alA x]++[.gp j 0]) i (Lr x)) (lev:Nat) (hlv0:¬lvl (.mk o n u ns ks al) < lev):EC i (.mk o n u ns ks al) lev:=by
 have hko:∀x∈ks,WC 139 [.gp i 0,exA x] i (Ax x):=fun x hx=>Yc (hk x hx 0)
 intro σ0 σ s hH hb0 hlen
 rw [pl,if_neg hlv0] at hlen ⊢
 have hlv:=Z9 (.mk o n u ns ks al) σ
 have hlt:decide (lvl (.mk o n u ns ks al) < lev)=false:=decide_eq_false hlv0
 refine JN (by simp) ?_
 rw [ID]
 by_cases ho:eM o
 · have hl:=pC hn ho hko ha
   simp only [exA,Ex.A3,AE,AH] at hlv hl ⊢
   generalize lvl (.mk o n u ns ks al)=lv at hlv hlt
   generalize Ax (.mk o n u ns ks al)=txt at hl hlen ⊢
   rcases ho with rfl|rfl|rfl|rfl|rfl|rfl
   all_goals (repeat' (first|refine Run.ct rfl ?_|((first|refine Run.reg mixed ?_|refine Run.AM ?_|(refine AG.mk rfl (hl σ0 σ _ hH hb0 (by (try simp only [AD,AA,AF] at hlen ⊢);omega)) ?_;rintro _ σ1 ⟨rfl,hb1⟩)|refine AG.det (hlv) ?_|(refine AQ rfl (fun h=>?_) (fun h=>?_)<;>try (cases h;done)))<;>try simp -implicitDefEqProofs only [A5,ltI,hlt,go_sem])|(refine ⟨fun h=>?_,fun h=>?_⟩<;>first|(cases h;done)|try simp only [h])|fail))
   all_goals try simp only [AS,AX,A6,A1] at hb1 ⊢
   all_goals exact Run.fin B4 rfl (fun _ _ h=>h) (AN.le_refl _) ⟨rfl,hb1⟩
 by_cases h13:o=13
 · subst h13
   have hn':=hn
   simp only [G5,AK] at hn'
   obtain ⟨⟨⟨⟨hnm,hnu⟩,hns⟩,has⟩,hnk⟩:=hn'
   simp [nuB] at hnu
   obtain ⟨a,b,rfl⟩:=R7 (by simpa [nkB] using hnk)
   have hka:=hk a (by simp) (plL u)
   have hkb:=hk b (by simp) (plR u)
   have hpl:=UH u σ
   have e:Ax (.mk 13 n u ns [a,b] al)=pl (plL u) a (Ax a)++([32]++(opT u++([32]++pl (plR u) b (Ax b)))):=by
    rw [Ax,L9];rfl
   rw [e] at hlen ⊢
   clear e
   unfold EC at hka hkb
   generalize pl (plL u) a (Ax a)=ta at *
   generalize pl (plR u) b (Ax b)=tb at *
   obtain ⟨oa,na,ua,nsa,ksa,ala⟩:=a
   obtain ⟨ob,nb,ub,nsb,ksb,alb⟩:=b
   simp only [exA,Ex.A3,AE,AH] at hka hkb hlv ⊢
   generalize lvl _=lv at hlv hlt
   have hlen2:=hlen
   simp only [AD,AA,AF] at hlen2
   have ha1:=G6 (a:=[32]) (b:=opT u) (by simp only [AD,AF];omega)
   have ha2:=G6 (a:=[32]++opT u) (b:=[32]) (by simp only [AA,AD,AF];omega)
   simp only [AX,A6] at ha1 ha2
   have hot:=fun σ=>PH u σ ⟨hnu.1,hnu.2⟩
   (repeat' (first|refine Run.ct rfl ?_|((first|refine Run.reg mixed ?_|refine Run.AM ?_|(refine AG.mk rfl (hka σ0 σ _ hH hb0 (by (try simp only [AD,AA,AF] at hlen ⊢);omega)) ?_;rintro _ σ1 ⟨rfl,hb1⟩)|refine AG.det (hlv) ?_|refine AG.det (hpl) ?_|(refine AQ rfl (fun h=>?_) (fun h=>?_)<;>try (cases h;done)))<;>try simp -implicitDefEqProofs only [A5,ltI,hlt,ha1,ha2,go_sem])|(refine ⟨fun h=>?_,fun h=>?_⟩<;>first|(cases h;done)|try simp only [h])|fail))
   (repeat' (first|refine Run.ct rfl ?_|((first|refine Run.reg mixed ?_|refine Run.AM ?_|(refine AG.mk rfl (A2 _ hb1 (by (try simp only [AD,AA,AF] at hlen ⊢);omega)) ?_;rintro _ σ2 ⟨rfl,hb2⟩)|refine AG.det (hot _) ?_|(refine AQ rfl (fun h=>?_) (fun h=>?_)<;>try (cases h;done)))<;>try simp -implicitDefEqProofs only [A5,ltI,hlt,ha1,ha2,go_sem])|(refine ⟨fun h=>?_,fun h=>?_⟩<;>first|(cases h;done)|try simp only [h])|fail))
   (repeat' (first|refine Run.ct rfl ?_|((first|refine Run.reg mixed ?_|refine Run.AM ?_|(refine AG.mk rfl (hkb σ0 σ2 _ hH hb2 (by (try simp only [AD,AA,AF] at hlen ⊢);omega)) ?_;rintro _ σ3 ⟨rfl,hb3⟩)|(refine AQ rfl (fun h=>?_) (fun h=>?_)<;>try (cases h;done)))<;>try simp -implicitDefEqProofs only [A5,ltI,hlt,ha1,ha2,go_sem])|(refine ⟨fun h=>?_,fun h=>?_⟩<;>first|(cases h;done)|try simp only [h])|fail))
   try simp only [AS,AX,A6,A1] at hb3 ⊢
   exact Run.fin B4 rfl (fun _ _ h=>h) (AN.le_refl _) ⟨rfl,hb3⟩
 by_cases h12:o=12
 · subst h12
   have hn':=hn
   simp only [G5,AK] at hn'
   obtain ⟨⟨⟨⟨hnm,hnu⟩,hns⟩,has⟩,hnk⟩:=hn'
   cases ks with
   |nil=>simp [nkB] at hnk
   |cons f l=>
   have hli:=eL (i:=i) (ks:=l) (fun x hx=>hko x (Ae _ hx))
   have hf4:=hk f (A9 ..) 4
   have hfp:=Nc (hko f (A9 ..))
   have e:Ax (.mk 12 n u ns (f::l) al)=(if Ld f then I8 (Ax f) else pl 4 f (Ax f))++Hy (l.map Ax):=by
    rw [Ax,L9];rfl
   rw [e] at hlen ⊢
   clear e
   unfold EC at hf4
   have hsl:Yp (List.map Ex.enc (f::l)) (some (.d (.int .i64 1))) none none 6=some (.d (.sl (l.map Ex.enc))):=mY f l
   generalize hpp:I8 (Ax f)=tp at *
   generalize pl 4 f (Ax f)=tq at *
   clear hpp
   obtain ⟨of,nf,uf,nsf,ksf,alf⟩:=f
   simp only [exA,Ex.A3,AE,AH] at hf4 hfp hlv hsl ⊢
   generalize lvl _=lv at hlv hlt
   by_cases h6:of=6
   · subst h6
     cases ksf with
     |nil=>
      have hbc:Ld (.mk 6 nf uf nsf [] alf)=true:=rfl
      rw [hbc,if_pos rfl] at hlen ⊢
      simp only [AH] at hf4 hfp hlv hsl ⊢
      (repeat' (first|refine Run.ct rfl ?_|((first|refine Run.reg mixed ?_|refine Run.AM ?_|(refine AG.mk rfl (hfp σ0 σ _ hH hb0 (by (try simp only [AD,AA,AF] at hlen ⊢);omega)) ?_;rintro _ σ1 ⟨rfl,hb1⟩)|refine AG.det (hlv) ?_|(refine AQ rfl (fun h=>?_) (fun h=>?_)<;>try (cases h;done)))<;>try simp -implicitDefEqProofs only [A5,ltI,hlt,hsl,Int.le_refl,if_true,NJ,C8,BZ,AD,AF,go_sem])|(refine ⟨fun h=>?_,fun h=>?_⟩<;>first|(cases h;done)|try simp only [h])|fail))
      (repeat' (first|refine Run.ct rfl ?_|((first|refine Run.reg mixed ?_|refine Run.AM ?_|(refine AG.mk rfl (hli σ0 σ1 _ hH hb1 (by (try simp only [AD,AA,AF] at hlen ⊢);omega)) ?_;rintro _ σ2 ⟨rfl,hb2⟩)|(refine AQ rfl (fun h=>?_) (fun h=>?_)<;>try (cases h;done)))<;>try simp -implicitDefEqProofs only [A5,ltI,hlt,hsl,Int.le_refl,if_true,NJ,C8,BZ,AD,AF,go_sem])|(refine ⟨fun h=>?_,fun h=>?_⟩<;>first|(cases h;done)|try simp only [h])|fail))
      try simp only [AS,AX,A6,A1] at hb2 ⊢
      exact Run.fin B4 rfl (fun _ _ h=>h) (AN.le_refl _) ⟨rfl,hb2⟩
     |cons k1 l1=>
      have hbc:Ld (.mk 6 nf uf nsf (k1::l1) alf)=false:=rfl
      rw [hbc,if_neg (by decide)] at hlen ⊢
      simp only [AE] at hf4 hfp hlv hsl ⊢
      (repeat' (first|refine Run.ct rfl ?_|((first|refine Run.reg mixed ?_|refine Run.AM ?_|(refine AG.mk rfl (hf4 σ0 σ _ hH hb0 (by (try simp only [AD,AA,AF] at hlen ⊢);omega)) ?_;rintro _ σ1 ⟨rfl,hb1⟩)|refine AG.det (hlv) ?_|(refine AQ rfl (fun h=>?_) (fun h=>?_)<;>try (cases h;done)))<;>try simp -implicitDefEqProofs only [A5,ltI,hlt,hsl,Int.le_refl,if_true,NJ,C8,BZ,AD,AF,eqS,AI,go_sem])|(refine ⟨fun h=>?_,fun h=>?_⟩<;>first|(cases h;done)|try simp only [h])|fail))
      (repeat' (first|refine Run.ct rfl ?_|((first|refine Run.reg mixed ?_|refine Run.AM ?_|(refine AG.mk rfl (hli σ0 σ1 _ hH hb1 (by (try simp only [AD,AA,AF] at hlen ⊢);omega)) ?_;rintro _ σ2 ⟨rfl,hb2⟩)|(refine AQ rfl (fun h=>?_) (fun h=>?_)<;>try (cases h;done)))<;>try simp -implicitDefEqProofs only [A5,ltI,hlt,hsl,Int.le_refl,if_true,NJ,C8,BZ,AD,AF,eqS,AI,go_sem])|(refine ⟨fun h=>?_,fun h=>?_⟩<;>first|(cases h;done)|try simp only [h])|fail))
      try simp only [AS,AX,A6,A1] at hb2 ⊢
      exact Run.fin B4 rfl (fun _ _ h=>h) (AN.le_refl _) ⟨rfl,hb2⟩
   · have hbc:Ld (.mk of nf uf nsf ksf alf)=false:=by show (of==6&&_)=false;rw [Ds h6];rfl
     rw [hbc,if_neg (by decide)] at hlen ⊢
     (repeat' (first|refine Run.ct rfl ?_|((first|refine Run.reg mixed ?_|refine Run.AM ?_|(refine AG.mk rfl (hf4 σ0 σ _ hH hb0 (by (try simp only [AD,AA,AF] at hlen ⊢);omega)) ?_;rintro _ σ1 ⟨rfl,hb1⟩)|refine AG.det (hlv) ?_|(refine AQ rfl (fun h=>?_) (fun h=>?_)<;>try (cases h;done)))<;>try simp -implicitDefEqProofs only [A5,ltI,hlt,hsl,Int.le_refl,if_true,NJ,C8,BZ,AD,AF,Ds h6,go_sem])|(refine ⟨fun h=>?_,fun h=>?_⟩<;>first|(cases h;done)|try simp only [h])|fail))
     (repeat' (first|refine Run.ct rfl ?_|((first|refine Run.reg mixed ?_|refine Run.AM ?_|(refine AG.mk rfl (hli σ0 σ1 _ hH hb1 (by (try simp only [AD,AA,AF] at hlen ⊢);omega)) ?_;rintro _ σ2 ⟨rfl,hb2⟩)|(refine AQ rfl (fun h=>?_) (fun h=>?_)<;>try (cases h;done)))<;>try simp -implicitDefEqProofs only [A5,ltI,hlt,hsl,Int.le_refl,if_true,NJ,C8,BZ,AD,AF,Ds h6,go_sem])|(refine ⟨fun h=>?_,fun h=>?_⟩<;>first|(cases h;done)|try simp only [h])|fail))
     try simp only [AS,AX,A6,A1] at hb2 ⊢
     exact Run.fin B4 rfl (fun _ _ h=>h) (AN.le_refl _) ⟨rfl,hb2⟩
 have hn':=hn
 simp only [G5,AK] at hn'
 obtain ⟨⟨⟨⟨hnm,hnu⟩,hns⟩,has⟩,hnk⟩:=hn'
 have hop:=eO hnk
 have hpo:mK o:=by unfold mK;unfold eM at ho;omega
 have hl:=mM hn hpo hko
 simp only [exA,Ex.A3,AE,AH] at hlv hl ⊢
 generalize lvl (.mk o n u ns ks al)=lv at hlv hlt
 generalize Ax (.mk o n u ns ks al)=txt at hl hlen ⊢
 simp only [eM,not_or] at ho
 obtain ⟨h1,h2,h3,h4,h5,h6⟩:=ho
 (repeat' (first|refine Run.ct rfl ?_|((first|refine Run.reg mixed ?_|refine Run.AM ?_|(refine AG.mk rfl (hl σ0 σ _ hH hb0 (by (try simp only [AD,AA,AF] at hlen ⊢);omega)) ?_;rintro _ σ1 ⟨rfl,hb1⟩)|refine AG.det (hlv) ?_|(refine AQ rfl (fun h=>?_) (fun h=>?_)<;>try (cases h;done)))<;>try simp -implicitDefEqProofs only [A5,ltI,hlt,Ds h1,Ds h2,Ds h3,Ds h4,Ds h5,Ds h6,Ds h12,Ds h13,go_sem])|(refine ⟨fun h=>?_,fun h=>?_⟩<;>first|(cases h;done)|try simp only [h])|fail))
 try simp only [AS,AX,A6,A1] at hb1 ⊢
 exact Run.fin B4 rfl (fun _ _ h=>h) (AN.le_refl _) ⟨rfl,hb1⟩
theorem gG {i:Nat} {o:Int} {n:Str} {u:Int} {ns:List Str} {ks:List Ex} {al:List Al} (hn:G5 o n u ns ks.length al=true)
 (hk:∀x∈ks,∀lev,EC i x lev)
 (ha:∀x∈al,∀j,WX (fun σ=>σ.blk j=some [.gp i 0]) 143 ([]++[alA x]++[.gp j 0]) i (Lr x)) (lev:Nat):EC i (.mk o n u ns ks al) lev:=by
 by_cases hlv0:lvl (.mk o n u ns ks al) < lev
 · have hpa:=Nc (Yc (Xf hn hk ha 0 (by omega)))
   intro σ0 σ s hH hb0 hlen
   rw [pl,if_pos hlv0] at hlen ⊢
   have hlv:=Z9 (.mk o n u ns ks al) σ
   have hlt:decide (lvl (.mk o n u ns ks al) < lev)=true:=decide_eq_true hlv0
   refine JN (by simp) ?_
   rw [ID]
   simp only [exA,Ex.A3,AE,AH] at hlv hpa ⊢
   generalize lvl (.mk o n u ns ks al)=lv at hlv hlt
   generalize I8 (Ax (.mk o n u ns ks al))=txt at hpa hlen ⊢
   (repeat' (first|refine Run.ct rfl ?_|((first|refine Run.reg mixed ?_|refine Run.AM ?_|(refine AG.mk rfl (hpa σ0 σ _ hH hb0 (by (try simp only [AD,AA,AF] at hlen ⊢);omega)) ?_;rintro _ σ1 ⟨rfl,hb1⟩)|refine AG.det (hlv) ?_|(refine AQ rfl (fun h=>?_) (fun h=>?_)<;>try (cases h;done)))<;>try simp -implicitDefEqProofs only [ltI,hlt,go_sem])|(refine ⟨fun h=>?_,fun h=>?_⟩<;>first|(cases h;done)|try simp only [h])|fail))
   exact Run.Ia B4 (AN.le_refl _) ⟨rfl,hb1⟩
 · exact Xf hn hk ha lev hlv0
mutual
theorem YR (i:Nat):∀(e:Ex),e.nb→∀lev,EC i e lev
 | .mk o n u ns ks al,h,lev=>by
  rw [Ex.nb] at h
  exact gG h.1 (ZR i ks h.2.1) (dP i al h.2.2) lev
theorem ZR (i:Nat):∀(l:List Ex),Ex.nbs l→∀x∈l,∀lev,EC i x lev
 |[],_,x,hx,_=>by cases hx
 |e::l,h,x,hx,lev=>by
  rw [Ex.nbs] at h
  rcases By.1 hx with hxe|hx
  · rw [hxe];exact YR i e h.1 lev
  · exact ZR i l h.2 x hx lev
theorem dP (i:Nat):∀(l:List Al),Al.nbs l→∀x∈l,∀j,WX (fun σ=>σ.blk j=some [.gp i 0]) 143 ([]++[alA x]++[.gp j 0]) i (Lr x)
 |[],_,x,hx,_=>by cases hx
 | .mk c vs b::l,h,x,hx,j=>by
  rw [Al.nbs,Al.nb] at h
  rcases By.1 hx with hxe|hx
  · rw [hxe];exact r2 j (Yc (YR i b h.1 0))
  · exact dP i l h.2 x hx j
end
end Go.Ab
namespace Go.Ab
theorem HL {s:Str} (h:Gr s=true):s.length≤24:=by
 obtain ⟨b,r,rfl,_,_,h3,h4⟩:=WD h
 first|exact h3|exact h4|omega
theorem N8 {s:Str} (h:upperB s=true):s.length≤24:=by
 obtain ⟨b,r,rfl,_,_,h4⟩:=U0 h
 exact h4
theorem TS {s:Str} (h:Gi s=true):(shown s).length≤24:=by
 rw [shown]
 split
 · simp
 · rename_i hs
   simp only [Gi,BJ,beq_iff_eq] at h
   exact HL (h.resolve_left hs)
def JL (l:List Str):Nat:=D8 (fun x=>x.length+3) l
theorem Fy (x:Str) (l:List Str):JL (x::l)=x.length+3+JL l:=by simp [JL,D8]
theorem eD (sep:Str) (hs:sep.length≤3):∀l:List Str,(Lib.joinTail sep l).length≤JL l
 |[]=>by simp [Lib.joinTail,JL,D8]
 |x::l=>by
  have:=eD sep hs l
  rw [Fy]
  simp only [Lib.joinTail,AE,CZ,AA] at this ⊢
  omega
theorem RH {sep:Str} (hs:sep.length≤3) (l:List Str):(Lib.join l sep).length≤JL l:=by
 cases l with
 |nil=>simp [Lib.join_nil]
 |cons x l=>
  rw [Lib.join_cons,Fy,AA]
  have:=eD sep hs l
  omega
theorem N7 (l:List Str):(Hz l).length≤2+JL l:=by
 rw [Hz]
 split
 · simp
 · have:=RH (sep:=[44,32]) (by decide) l
   simp only [I8,cms,AD,AA,AF];omega
theorem Q0 (l:List Str):(Hy l).length≤2+JL l:=by
 have:=RH (sep:=[44,32]) (by decide) l
 simp only [Hy,I8,cms,AD,AA,AF];omega
theorem X0 {l:List Str} {N:Nat} (h:∀x∈l,x.length≤N):JL l≤l.length * (N+3):=by
 induction l with
 |nil=>simp [JL,D8]
 |cons x l ih=>
  rw [Fy,AD,K4]
  have h1:=h x (A9 ..)
  have h2:=ih (fun y hy=>h y (Ae _ hy))
  omega
theorem rL {α:Type} (f:α→Str) (μ:α→Nat) (l:List α) (h:∀x∈l,(f x).length+3≤μ x):JL (l.map f)≤D8 μ l:=by
 induction l with
 |nil=>simp [JL,D8]
 |cons x l ih=>
  rw [AE,Fy]
  have h1:=h x (A9 ..)
  have h2:=ih (fun y hy=>h y (Ae _ hy))
  simp only [D8,AE,List.sum_cons] at h2 ⊢
  omega
theorem nC {α:Type} (c:Nat) (μ:α→Nat) (l:List α):D8 (fun x=>c * μ x) l=c * D8 μ l:=by
 induction l with
 |nil=>simp [D8]
 |cons x l ih=>simp only [D8,AE,List.sum_cons,Nat.mul_add] at ih ⊢;omega
theorem Xj:∀l:List Str,JL l.dropLast+(l.getLastD []).length≤JL l
 |[]=>by simp [JL,D8]
 |[x]=>by simp [JL,D8]
 |x::y::l=>by
  have:=Xj (y::l)
  rw [List.dropLast_cons_cons,Fy,Fy]
  have e:(x::y::l).getLastD []=(y::l).getLastD []:=by simp
  rw [e];omega
theorem mX {k:Int} {n:Str} {q:Nat} (h:Cp k n q=true):n.length≤24:=by
 unfold Cp at h
 repeat' (split at h)
 all_goals simp only [AK,beq_iff_eq,AY] at h
 all_goals first|exact HL h.1|exact N8 h.1|(have:=h.1;subst this;simp)|(have:=h.1.1;subst this;simp)
theorem k7 {k:Int} {n:Str} (hn:n.length≤24) (ts:List Str):(tyN k n ts).length≤40+JL ts:=by
 have h1:=N7 ts
 have h2:=Q0 ts.dropLast
 have h3:=Xj ts
 unfold tyN
 repeat' split
 all_goals simp only [AA,AD,AF]
 all_goals omega
theorem Z5:∀(d:Nat) (t:TE),D3 d t=true→(C9 t).length+3≤60 * t.size
 |0,t,h=>by simp [D3] at h
 |d+1,.mk k n l,h=>by
  rw [D3,AK,A4] at h
  rw [C9,OS,TE.size,Nw]
  have h1:=k7 (k:=k) (mX h.1) (l.map C9)
  have h2:=rL C9 (fun t=>60 * t.size) l (fun x hx=>Z5 d x (h.2 x hx))
  rw [nC] at h2
  omega
theorem pK {o:Int} {n:Str} (h:nmB o n=true):n.length≤24∧(shown n).length≤24:=by
 unfold nmB at h
 have hs:n.length≤24→(shown n).length≤24:=fun h=>by rw [shown];split<;>simp_all
 repeat' (split at h)
 · exact ⟨HL h,hs (HL h)⟩
 · exact ⟨N8 h,hs (N8 h)⟩
 · refine ⟨?_,TS h⟩
   simp only [Gi,BJ,beq_iff_eq] at h
   rcases h with rfl|h
   · simp
   · exact HL h
 · simp only [beq_iff_eq] at h;subst h;exact ⟨by simp,by decide⟩
theorem pR {o:Int} {ns:List Str} (h:nsB o ns=true):JL (ns.map shown)≤162∧JL ns≤162:=by
 have key:∀m:List Str,m.length≤6→(∀x∈m,x.length≤24)→JL m≤162:=fun m h1 h2=>by
  have:=X0 h2
  have:m.length * 27≤6 * 27:=Aj _ h1
  omega
 have hb:∀s:Str,Gi s=true→s.length≤24:=fun s h=>by
  simp only [Gi,BJ,beq_iff_eq] at h
  rcases h with rfl|h
  · simp
  · exact HL h
 have hnb:∀s:Str,Gr s=true→Gi s=true:=fun s h=>by simp [Gi,h]
 unfold nsB at h
 split at h
 · simp only [AK,decide_eq_true_eq,A4] at h
   refine ⟨key _ (by simpa using h.1.2) (fun x hx=>?_),key _ h.1.2 (fun x hx=>hb x (h.2 x hx))⟩
   obtain ⟨y,hy,rfl⟩:=K3.1 hx
   exact TS (h.2 y hy)
 · split at h
   · simp only [AK,decide_eq_true_eq,A4] at h
     refine ⟨key _ (by simpa using h.1) (fun x hx=>?_),key _ h.1 (fun x hx=>HL (h.2 x hx))⟩
     obtain ⟨y,hy,rfl⟩:=K3.1 hx
     exact TS (hnb y (h.2 y hy))
   · rw [decide_eq_true_eq,List.length_eq_zero_iff] at h
     subst h;simp [JL,D8]
theorem kY {c:Str} {vs:List Str} {b:Ex} (h:SP (.mk c vs b)=true):(Lr (.mk c vs b)).length≤200+(Ax b).length:=by
 simp only [SP,AK,decide_eq_true_eq,A4] at h
 rw [Lr,alT]
 have h1:=N8 h.1.1
 have h2:=N7 (vs.map shown)
 have h3:JL (vs.map shown)≤(vs.map shown).length * 27:=X0 (fun x hx=>by obtain ⟨y,hy,rfl⟩:=K3.1 hx;exact TS (h.2 y hy))
 have h4:(vs.map shown).length * 27≤6 * 27:=Aj _ (by simpa using h.1.2)
 simp only [AA,AD,AF]
 omega
theorem oO (l:List Str):(at0 l 0).length+JL l.tail≤JL l:=by
 cases l with
 |nil=>simp [at0,JL,D8]
 |cons x l=>
  rw [Fy]
  show x.length+JL l≤_
  omega
theorem Z2 (l:List Str):(at0 l 0).length+(at0 l 1).length+(at0 l 2).length≤JL l:=by
 match l with
 |[]=>simp [at0,JL,D8]
 |[x]=>simp [at0,JL,D8]
 |[x,y]=>
  rw [Fy,Fy]
  show x.length+y.length+0≤_
  omega
 |x::y::z::l=>
  rw [Fy,Fy,Fy]
  show x.length+y.length+z.length≤_
  omega
theorem Y2 (d:Nat) (k:Ex) (t:Str):(pl d k t).length≤2+t.length:=by
 rw [pl];split
 · simp only [I8,AD,AA,AF];omega
 · omega
theorem Z4 (t:Str):(I8 t).length≤2+t.length:=by simp only [I8,AD,AA,AF];omega
theorem kZ (ks:List Ex) (ts:List Str):(r8 ks ts).length≤8+JL ts:=by
 unfold r8
 have h1:=Q0 ts.tail
 have h2:=oO ts
 split
 · omega
 · have h3:=Z4 (at0 ts 0)
   rename_i k _
   have h4:=Y2 4 k (at0 ts 0)
   rw [AA]
   split<;>omega
theorem k6 (u:Int):(opT u).length≤10:=by
 unfold opT TZ
 split<;>decide
theorem k5 (u:Int) (ks:List Ex) (ts:List Str):(sC u ks ts).length≤20+JL ts:=by
 unfold sC
 have h2:=Z2 ts
 have h3:=k6 u
 split
 · rename_i a b
   have h4:=Y2 (if EN u=1 then 2 else EN u) a (at0 ts 0)
   have h5:=Y2 (if EN u=1 then 2 else EN u+1) b (at0 ts 1)
   simp only [AA,AD]
   omega
 · simp
theorem oR (u:Int):(prT u).length≤10:=by
 unfold prT
 repeat' split
 all_goals decide
theorem oQ {o u:Int} (h:nuB o u=true):(Lib.itoa u).length≤21:=by
 refine Lib.itoa_length_le u ?_ ?_
 all_goals
  unfold nuB at h
  repeat' (split at h)
  all_goals simp only [AK,decide_eq_true_eq,beq_iff_eq] at h
  all_goals omega
theorem oP {o:Int} {n:Str} {u:Int} {ns:List Str} (hn:nmB o n=true) (hu:nuB o u=true) (hs:nsB o ns=true) (ks:List Ex) (ts as':List Str):(ON o n u ns ks ts as').length≤250+JL ts+JL as':=by
 obtain ⟨h1,h2⟩:=pK hn
 obtain ⟨h3,h4⟩:=pR hs
 have h5:=N7 ts
 have h6:=Q0 ts
 have h7:=Z2 ts
 have h8:=kZ ks ts
 have h9:=k5 u ks ts
 have h10:=oR u
 have h11:=oQ hu
 have h12:=Z4 (Lib.itoa u)
 have h13:=N7 (ns.map shown)
 have h14:=Q0 ns
 have h15:=RH (sep:=[32,124,32]) (by decide) as'
 unfold ON
 by_cases h:o=7
 · rw [if_pos h];try simp only [AA,AD,AF]
   omega
 rw [if_neg h];clear h
 by_cases h:o=8
 · rw [if_pos h];try simp only [AA,AD,AF]
   omega
 rw [if_neg h];clear h
 by_cases h:o=9
 · rw [if_pos h];try simp only [AA,AD,AF]
   omega
 rw [if_neg h];clear h
 by_cases h:o=10
 · rw [if_pos h];try simp only [AA,AD,AF]
   omega
 rw [if_neg h];clear h
 by_cases h:o=11
 · rw [if_pos h];try simp only [AA,AD,AF]
   omega
 rw [if_neg h];clear h
 by_cases h:o=17
 · rw [if_pos h];try simp only [AA,AD,AF]
   omega
 rw [if_neg h];clear h
 by_cases h:o=13
 · rw [if_pos h];try simp only [AA,AD,AF]
   omega
 rw [if_neg h];clear h
 by_cases h:o=12
 · rw [if_pos h];try simp only [AA,AD,AF]
   omega
 rw [if_neg h];clear h
 by_cases h:o=1
 · rw [if_pos h];try simp only [AA,AD,AF]
   omega
 rw [if_neg h];clear h
 by_cases h:o=2
 · rw [if_pos h];split<;>(simp only [AD,AF];omega)
 rw [if_neg h];clear h
 by_cases h:o=3
 · rw [if_pos h];try simp only [AA,AD,AF]
   omega
 rw [if_neg h];clear h
 by_cases h:o=5
 · rw [if_pos h];try simp only [AA,AD,AF]
   omega
 rw [if_neg h];clear h
 by_cases h:o=14
 · rw [if_pos h];try simp only [AA,AD,AF]
   omega
 rw [if_neg h];clear h
 by_cases h:o=16
 · rw [if_pos h];try simp only [AA,AD,AF]
   omega
 rw [if_neg h];clear h
 by_cases h:o=15
 · rw [if_pos h];try simp only [AA,AD,AF]
   omega
 rw [if_neg h];clear h
 rw [AA];omega
mutual
theorem Y1:∀(e:Ex),e.nb→(Ax e).length+250≤800 * e.size
 | .mk o n u ns ks al,h=>by
  rw [Ex.nb] at h
  have hn:=h.1
  simp only [G5,AK] at hn
  obtain ⟨⟨⟨⟨hnm,hnu⟩,hns⟩,has⟩,hnk⟩:=hn
  rw [Ax,Ex.size]
  have h1:=oP hnm hnu hns ks (U8 ks) (JD al)
  have h2:=Z3 ks h.2.1
  have h3:=Z1 al h.2.2 (aR has)
  omega
theorem Z3:∀(l:List Ex),Ex.nbs l→JL (U8 l)≤800 * Ex.BK l
 |[],_=>by simp [U8,JL,D8]
 |e::l,h=>by
  rw [Ex.nbs] at h
  have h1:=Y1 e h.1
  have h2:=Z3 l h.2
  rw [U8,Fy,Ex.BK]
  omega
theorem Z1:∀(l:List Al),Al.nbs l→(∀a∈l,SP a=true)→JL (JD l)≤800 * Al.BK l
 |[],_,_=>by simp [JD,JL,D8]
 | .mk c vs b::l,h,ha=>by
  rw [Al.nbs,Al.nb] at h
  have h1:=Y1 b h.1
  have h2:=Z1 l h.2 (fun a hx=>ha a (Ae _ hx))
  have h3:=kY (ha _ (A9 ..))
  rw [JD,Fy,Al.BK,Al.size]
  omega
end
theorem RG {α:Type} {f:Nat→α→Option Nat} {μ:α→Nat}:∀(l:List α) (q r:Nat),(∀x∈l,∀a b,f a x=some b→μ x+b≤a)→l.foldlM f q=some r→D8 μ l+r≤q
 |[],q,r,_,h=>by
  simp only [List.foldlM_nil] at h
  cases h
  simp [D8]
 |y::l,q,r,hf,h=>by
  rw [List.foldlM_cons,AR,AB] at h
  obtain ⟨b,hb,h⟩:=h
  have h1:=hf y (A9 ..) q b hb
  have h2:=RG l b r (fun x hx=>hf x (Ae _ hx)) h
  simp only [D8,AE,List.sum_cons] at h2 ⊢
  omega
theorem Xi:∀l:List Ex,Ex.BK l=D8 Ex.size l
 |[]=>rfl
 |e::l=>by rw [Ex.BK,Xi l];simp [D8]
theorem Xh:∀l:List Al,Al.BK l=D8 Al.size l
 |[]=>rfl
 |e::l=>by rw [Al.BK,Xh l];simp [D8]
theorem dE:∀(d q:Nat) (e:Ex) (r:Nat),vEx d q e=some r→e.size+r≤q
 |0,q,.mk ..,r,h=>by simp [vEx] at h
 |d+1,0,.mk ..,r,h=>by cases h
 |d+1,q+1,.mk o n u ns ks al,r,h=>by
  simp only [vEx] at h
  split at h
  · rw [AB] at h
    obtain ⟨c,hc,h⟩:=h
    have h1:=RG (μ:=Ex.size) ks q c (fun x _ a b hab=>dE d a x b hab) hc
    have h2:=RG (μ:=Al.size) al c r (fun x _ a b hab=>by
     obtain ⟨cc,vs,bd⟩:=x
     rw [Al.size]
     exact dE d a bd b hab) h
    rw [Ex.size,Xi,Xh]
    omega
  · cases h
theorem Yw {q r:Nat} {f:FE} (h:Wr q f=some r):Mc f=true∧f.body.nb∧f.body.size+r≤q:=by
 unfold Wr at h
 split at h
 · rename_i hh;exact ⟨hh,Yu _ _ _ _ h,dE _ _ _ _ h⟩
 · cases h
theorem Qv {p:Pg} (h:EW p=true):(p.data.length≤12∧∀d∈p.data,IT d=true)∧p.S3.length≤24∧∀f∈p.S3,Mc f=true∧f.body.nb∧f.body.size≤600:=by
 simp only [EW,AK,decide_eq_true_eq,A4] at h
 obtain ⟨⟨⟨h1,h2⟩,h3⟩,h4⟩:=h
 obtain ⟨r,hr⟩:=Ul.1 h4
 have hs:=RG (μ:=fun f=>f.body.size) p.S3 600 r (fun x _ a b hab=>(Yw hab).2.2) hr
 have ha:=NU (Q:=fun f=>Mc f=true∧f.body.nb) p.S3 600 r (fun x _ a b hab=>⟨(Yw hab).1,(Yw hab).2.1⟩) hr
 refine ⟨⟨h1,h3⟩,h2,fun f hf=>⟨(ha f hf).1,(ha f hf).2,?_⟩⟩
 have:=T9 (μ:=fun f:FE=>f.body.size) hf
 omega
theorem Tz {α:Type} (f:α→Str) (N:Nat):∀l:List α,(∀x∈l,(f x).length≤N)→(l.map f).flatten.length≤l.length * N
 |[],_=>by simp
 |x::l,h=>by
  have h1:=h x (A9 ..)
  have h2:=Tz f N l (fun y hy=>h y (Ae _ hy))
  rw [AE,CZ,AA,AD,K4]
  omega
theorem hI {c:CE} (h:To c=true) (hs:∀t∈c.args,t.size≤100000):(fmtC c).length≤40000000:=by
 simp only [To,AK,decide_eq_true_eq,A4] at h
 rw [fmtC,AA]
 have h1:=N8 h.1.1
 have h2:=N7 (c.args.map C9)
 have h3:JL (c.args.map C9)≤(c.args.map C9).length * (6000000+3):=X0 (fun x hx=>by
  obtain ⟨t,ht,rfl⟩:=K3.1 hx
  have:=Z5 40 t (h.2 t ht)
  have:=hs t ht
  omega)
 have h4:(c.args.map C9).length * (6000000+3)≤6 * (6000000+3):=Aj _ (by simpa using h.1.2)
 omega
theorem bS {d:DE} (h:IT d=true) (hs:∀c∈d.cons,∀t∈c.args,t.size≤100000):(S0 d).length≤400000000:=by
 simp only [IT,AK,decide_eq_true_eq,A4] at h
 obtain ⟨⟨⟨⟨⟨h1,h2⟩,h3⟩,h4⟩,h5⟩,h6⟩:=h
 rw [S0]
 have g1:=N8 h1
 have g2:=N7 d.vars
 have g3:JL d.vars≤d.vars.length * 27:=X0 (fun x hx=>HL (h3 x hx))
 have g4:d.vars.length * 27≤6 * 27:=Aj _ h2
 have g5:=RH (sep:=[32,124,32]) (by decide) (d.cons.map fmtC)
 have g6:JL (d.cons.map fmtC)≤(d.cons.map fmtC).length * (40000000+3):=X0 (fun x hx=>by
  obtain ⟨t,ht,rfl⟩:=K3.1 hx
  exact hI (h6 t ht) (hs t ht))
 have g7:(d.cons.map fmtC).length * (40000000+3)≤8 * (40000000+3):=Aj _ (by simpa using h5)
 simp only [AA,AD,AF]
 omega
theorem hJ {f:FE} (h:Mc f=true) (hb:f.body.nb) (hs:f.body.size≤600):(Ts f).length≤1000000:=by
 simp only [Mc,AK,decide_eq_true_eq,A4] at h
 rw [Ts]
 have g1:=HL h.1.1
 have g2:=Q0 f.params
 have g3:JL f.params≤f.params.length * 27:=X0 (fun x hx=>HL (h.2 x hx))
 have g4:f.params.length * 27≤6 * 27:=Aj _ h.1.2
 have g5:=Y1 f.body hb
 simp only [AA,AD,AF]
 omega
theorem oI {p:Pg} (h:EW p=true) (hs:∀d∈p.data,∀c∈d.cons,∀t∈c.args,t.size≤100000):(Up p).length≤10000000000:=by
 obtain ⟨⟨h1,h2⟩,h3,h4⟩:=Qv h
 rw [Up,AA]
 have g1:=Tz S0 400000000 p.data (fun d hd=>bS (h2 d hd) (hs d hd))
 have g2:=Tz Ts 1000000 p.S3 (fun f hf=>hJ (h4 f hf).1 (h4 f hf).2.1 (h4 f hf).2.2)
 have g3:p.data.length * 400000000≤12 * 400000000:=Aj _ h1
 have g4:p.S3.length * 1000000≤24 * 1000000:=Aj _ h3
 omega
end Go.Ab
