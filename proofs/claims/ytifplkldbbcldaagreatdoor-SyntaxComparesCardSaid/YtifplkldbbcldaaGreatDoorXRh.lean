/- The printer: expressions. Lengths of texts. Conditions: none. -/
import Derived.Lib.ItoaLen
import Derived.Test.YtifplkldbbcldaaGreatDoorXRe
set_option linter.unusedSimpArgs false
set_option linter.unusedVariables false
set_option maxRecDepth 4000
set_option maxHeartbeats 8000000
open List renaming all_eq_true→A5,mem_cons→CN,mem_map→Lg,take_of_length_le→Ae,map_cons→AD,map_nil→AG,length_cons→AE,length_append→AA,length_nil→AH,append_assoc→AT,cons_append→AX,nil_append→A0,append_nil→AZ,mem_cons_of_mem→Ah,mem_cons_self→Ad,getElem?_cons_zero→Cs,length_map→AF,flatten_cons→Cj
open Int renaming reduceBEq→A7,toNat_zero→Of
open Bool renaming and_eq_true→AN,or_eq_true→BM,false_eq_true→A1
open Option renaming bind_some→B3,bind_eq_bind→AS,bind_eq_some_iff→AB,isSome_iff_exists→Wk
open Nat renaming succ_mul→Li,mul_le_mul_right→Ak
namespace Go.Ab
open Go.Proofs
theorem ltI (a b:Nat):decide ((a:Int) < (b:Int))=decide (a < b):=decide_eq_decide.2 (by omega)
theorem eqS (n:Nat):(((n+1:Nat):Int)==0)=false:=Ds (by omega)
theorem rZ (f:Ex) (l:List Ex):cK (List.map Ex.enc (f::l)) (some (.d (.int .i64 1))) none none 6=some (.d (.sl (l.map Ex.enc))):=by
 simp [cK,Xg,Vz]
 refine ⟨?_,?_⟩
 · rw [iV,A5]
   intro r hr
   rw [beq_iff_eq]
   rcases CN.1 hr with rfl|hr
   · obtain ⟨o,n,u,ns,ks,al⟩:=f;rfl
   · obtain ⟨x,_,rfl⟩:=Lg.1 hr
     obtain ⟨o,n,u,ns,ks,al⟩:=x;rfl
 · rw [Ae (by simp)]
set_option maxHeartbeats 8000000 in
theorem Zm {i:Nat} {o:Int} {n:Str} {u:Int} {ns:List Str} {ks:List Ex} {al:List Al} (hn:HT o n u ns ks.length al=true)
 (hk:∀x∈ks,∀lev,EC i x lev)
 (ha:∀x∈al,∀j,WX (fun σ=>σ.blk j=some [.gp i 0]) 143 ([]++[alA x]++[.gp j 0]) i (NJ x)) (lev:Nat) (hlv0:¬lvl (.mk o n u ns ks al) < lev):EC i (.mk o n u ns ks al) lev:=by
 have hko:∀x∈ks,WC 139 [.gp i 0,exA x] i (BA x):=fun x hx=>bX (hk x hx 0)
 intro σ0 σ s hH hb0 hlen
 rw [pl,if_neg hlv0] at hlen ⊢
 have hlv:=eG (.mk o n u ns ks al) σ
 have hlt:decide (lvl (.mk o n u ns ks al) < lev)=false:=decide_eq_false hlv0
 refine KS (by simp) ?_
 rw [Fb]
 by_cases ho:kF o
 · have hl:=uE hn ho hko ha
   simp only [exA,Ex.A2,AD,AG] at hlv hl ⊢
   generalize lvl (.mk o n u ns ks al)=lv at hlv hlt
   generalize BA (.mk o n u ns ks al)=txt at hl hlen ⊢
   rcases ho with rfl|rfl|rfl|rfl|rfl|rfl
   all_goals (repeat' (first|refine Run.ct rfl ?_|((first|refine Run.reg mixed ?_|refine Run.AJ ?_|(refine AI.mk rfl (hl σ0 σ _ hH hb0 (by (try simp only [AE,AA,AH] at hlen ⊢);omega)) ?_;rintro _ σ1 ⟨rfl,hb1⟩)|refine AI.det (hlv) ?_|(refine AP rfl (fun h=>?_) (fun h=>?_)<;>try (cases h;done)))<;>try simp -implicitDefEqProofs only [A7,ltI,hlt,go_sem])|(refine ⟨fun h=>?_,fun h=>?_⟩<;>first|(cases h;done)|try simp only [h])|fail))
   all_goals try simp only [AT,AX,A0,AZ] at hb1 ⊢
   all_goals exact Run.fin Bc rfl (fun _ _ h=>h) (AM.le_refl _) ⟨rfl,hb1⟩
 by_cases h13:o=13
 · subst h13
   have hn':=hn
   simp only [HT,AN] at hn'
   obtain ⟨⟨⟨⟨hnm,hnu⟩,hns⟩,has⟩,hnk⟩:=hn'
   simp [nuB] at hnu
   obtain ⟨a,b,rfl⟩:=TN (by simpa [nkB] using hnk)
   have hka:=hk a (by simp) (plL u)
   have hkb:=hk b (by simp) (plR u)
   have hpl:=WD u σ
   have e:BA (.mk 13 n u ns [a,b] al)=pl (plL u) a (BA a)++([32]++(opT u++([32]++pl (plR u) b (BA b)))):=by
    rw [BA,Mo];rfl
   rw [e] at hlen ⊢
   clear e
   unfold EC at hka hkb
   generalize pl (plL u) a (BA a)=ta at *
   generalize pl (plR u) b (BA b)=tb at *
   obtain ⟨oa,na,ua,nsa,ksa,ala⟩:=a
   obtain ⟨ob,nb,ub,nsb,ksb,alb⟩:=b
   simp only [exA,Ex.A2,AD,AG] at hka hkb hlv ⊢
   generalize lvl _=lv at hlv hlt
   have hlen2:=hlen
   simp only [AE,AA,AH] at hlen2
   have ha1:=HU (a:=[32]) (b:=opT u) (by simp only [AE,AH];omega)
   have ha2:=HU (a:=[32]++opT u) (b:=[32]) (by simp only [AA,AE,AH];omega)
   simp only [AX,A0] at ha1 ha2
   have hot:=fun σ=>Qq u σ ⟨hnu.1,hnu.2⟩
   (repeat' (first|refine Run.ct rfl ?_|((first|refine Run.reg mixed ?_|refine Run.AJ ?_|(refine AI.mk rfl (hka σ0 σ _ hH hb0 (by (try simp only [AE,AA,AH] at hlen ⊢);omega)) ?_;rintro _ σ1 ⟨rfl,hb1⟩)|refine AI.det (hlv) ?_|refine AI.det (hpl) ?_|(refine AP rfl (fun h=>?_) (fun h=>?_)<;>try (cases h;done)))<;>try simp -implicitDefEqProofs only [A7,ltI,hlt,ha1,ha2,go_sem])|(refine ⟨fun h=>?_,fun h=>?_⟩<;>first|(cases h;done)|try simp only [h])|fail))
   (repeat' (first|refine Run.ct rfl ?_|((first|refine Run.reg mixed ?_|refine Run.AJ ?_|(refine AI.mk rfl (A4 _ hb1 (by (try simp only [AE,AA,AH] at hlen ⊢);omega)) ?_;rintro _ σ2 ⟨rfl,hb2⟩)|refine AI.det (hot _) ?_|(refine AP rfl (fun h=>?_) (fun h=>?_)<;>try (cases h;done)))<;>try simp -implicitDefEqProofs only [A7,ltI,hlt,ha1,ha2,go_sem])|(refine ⟨fun h=>?_,fun h=>?_⟩<;>first|(cases h;done)|try simp only [h])|fail))
   (repeat' (first|refine Run.ct rfl ?_|((first|refine Run.reg mixed ?_|refine Run.AJ ?_|(refine AI.mk rfl (hkb σ0 σ2 _ hH hb2 (by (try simp only [AE,AA,AH] at hlen ⊢);omega)) ?_;rintro _ σ3 ⟨rfl,hb3⟩)|(refine AP rfl (fun h=>?_) (fun h=>?_)<;>try (cases h;done)))<;>try simp -implicitDefEqProofs only [A7,ltI,hlt,ha1,ha2,go_sem])|(refine ⟨fun h=>?_,fun h=>?_⟩<;>first|(cases h;done)|try simp only [h])|fail))
   try simp only [AT,AX,A0,AZ] at hb3 ⊢
   exact Run.fin Bc rfl (fun _ _ h=>h) (AM.le_refl _) ⟨rfl,hb3⟩
 by_cases h12:o=12
 · subst h12
   have hn':=hn
   simp only [HT,AN] at hn'
   obtain ⟨⟨⟨⟨hnm,hnu⟩,hns⟩,has⟩,hnk⟩:=hn'
   cases ks with
   |nil=>simp [nkB] at hnk
   |cons f l=>
   have hli:=kE (i:=i) (ks:=l) (fun x hx=>hko x (Ah _ hx))
   have hf4:=hk f (Ad ..) 4
   have hfp:=PN (hko f (Ad ..))
   have e:BA (.mk 12 n u ns (f::l) al)=(if Ms f then J7 (BA f) else pl 4 f (BA f))++Iz (l.map BA):=by
    rw [BA,Mo];rfl
   rw [e] at hlen ⊢
   clear e
   unfold EC at hf4
   have hsl:cK (List.map Ex.enc (f::l)) (some (.d (.int .i64 1))) none none 6=some (.d (.sl (l.map Ex.enc))):=rZ f l
   generalize hpp:J7 (BA f)=tp at *
   generalize pl 4 f (BA f)=tq at *
   clear hpp
   obtain ⟨of,nf,uf,nsf,ksf,alf⟩:=f
   simp only [exA,Ex.A2,AD,AG] at hf4 hfp hlv hsl ⊢
   generalize lvl _=lv at hlv hlt
   by_cases h6:of=6
   · subst h6
     cases ksf with
     |nil=>
      have hbc:Ms (.mk 6 nf uf nsf [] alf)=true:=rfl
      rw [hbc,if_pos rfl] at hlen ⊢
      simp only [AG] at hf4 hfp hlv hsl ⊢
      (repeat' (first|refine Run.ct rfl ?_|((first|refine Run.reg mixed ?_|refine Run.AJ ?_|(refine AI.mk rfl (hfp σ0 σ _ hH hb0 (by (try simp only [AE,AA,AH] at hlen ⊢);omega)) ?_;rintro _ σ1 ⟨rfl,hb1⟩)|refine AI.det (hlv) ?_|(refine AP rfl (fun h=>?_) (fun h=>?_)<;>try (cases h;done)))<;>try simp -implicitDefEqProofs only [A7,ltI,hlt,hsl,Int.le_refl,if_true,Of,Cs,B3,AE,AH,go_sem])|(refine ⟨fun h=>?_,fun h=>?_⟩<;>first|(cases h;done)|try simp only [h])|fail))
      (repeat' (first|refine Run.ct rfl ?_|((first|refine Run.reg mixed ?_|refine Run.AJ ?_|(refine AI.mk rfl (hli σ0 σ1 _ hH hb1 (by (try simp only [AE,AA,AH] at hlen ⊢);omega)) ?_;rintro _ σ2 ⟨rfl,hb2⟩)|(refine AP rfl (fun h=>?_) (fun h=>?_)<;>try (cases h;done)))<;>try simp -implicitDefEqProofs only [A7,ltI,hlt,hsl,Int.le_refl,if_true,Of,Cs,B3,AE,AH,go_sem])|(refine ⟨fun h=>?_,fun h=>?_⟩<;>first|(cases h;done)|try simp only [h])|fail))
      try simp only [AT,AX,A0,AZ] at hb2 ⊢
      exact Run.fin Bc rfl (fun _ _ h=>h) (AM.le_refl _) ⟨rfl,hb2⟩
     |cons k1 l1=>
      have hbc:Ms (.mk 6 nf uf nsf (k1::l1) alf)=false:=rfl
      rw [hbc,if_neg (by decide)] at hlen ⊢
      simp only [AD] at hf4 hfp hlv hsl ⊢
      (repeat' (first|refine Run.ct rfl ?_|((first|refine Run.reg mixed ?_|refine Run.AJ ?_|(refine AI.mk rfl (hf4 σ0 σ _ hH hb0 (by (try simp only [AE,AA,AH] at hlen ⊢);omega)) ?_;rintro _ σ1 ⟨rfl,hb1⟩)|refine AI.det (hlv) ?_|(refine AP rfl (fun h=>?_) (fun h=>?_)<;>try (cases h;done)))<;>try simp -implicitDefEqProofs only [A7,ltI,hlt,hsl,Int.le_refl,if_true,Of,Cs,B3,AE,AH,eqS,AF,go_sem])|(refine ⟨fun h=>?_,fun h=>?_⟩<;>first|(cases h;done)|try simp only [h])|fail))
      (repeat' (first|refine Run.ct rfl ?_|((first|refine Run.reg mixed ?_|refine Run.AJ ?_|(refine AI.mk rfl (hli σ0 σ1 _ hH hb1 (by (try simp only [AE,AA,AH] at hlen ⊢);omega)) ?_;rintro _ σ2 ⟨rfl,hb2⟩)|(refine AP rfl (fun h=>?_) (fun h=>?_)<;>try (cases h;done)))<;>try simp -implicitDefEqProofs only [A7,ltI,hlt,hsl,Int.le_refl,if_true,Of,Cs,B3,AE,AH,eqS,AF,go_sem])|(refine ⟨fun h=>?_,fun h=>?_⟩<;>first|(cases h;done)|try simp only [h])|fail))
      try simp only [AT,AX,A0,AZ] at hb2 ⊢
      exact Run.fin Bc rfl (fun _ _ h=>h) (AM.le_refl _) ⟨rfl,hb2⟩
   · have hbc:Ms (.mk of nf uf nsf ksf alf)=false:=by show (of==6&&_)=false;rw [Ds h6];rfl
     rw [hbc,if_neg (by decide)] at hlen ⊢
     (repeat' (first|refine Run.ct rfl ?_|((first|refine Run.reg mixed ?_|refine Run.AJ ?_|(refine AI.mk rfl (hf4 σ0 σ _ hH hb0 (by (try simp only [AE,AA,AH] at hlen ⊢);omega)) ?_;rintro _ σ1 ⟨rfl,hb1⟩)|refine AI.det (hlv) ?_|(refine AP rfl (fun h=>?_) (fun h=>?_)<;>try (cases h;done)))<;>try simp -implicitDefEqProofs only [A7,ltI,hlt,hsl,Int.le_refl,if_true,Of,Cs,B3,AE,AH,Ds h6,go_sem])|(refine ⟨fun h=>?_,fun h=>?_⟩<;>first|(cases h;done)|try simp only [h])|fail))
     (repeat' (first|refine Run.ct rfl ?_|((first|refine Run.reg mixed ?_|refine Run.AJ ?_|(refine AI.mk rfl (hli σ0 σ1 _ hH hb1 (by (try simp only [AE,AA,AH] at hlen ⊢);omega)) ?_;rintro _ σ2 ⟨rfl,hb2⟩)|(refine AP rfl (fun h=>?_) (fun h=>?_)<;>try (cases h;done)))<;>try simp -implicitDefEqProofs only [A7,ltI,hlt,hsl,Int.le_refl,if_true,Of,Cs,B3,AE,AH,Ds h6,go_sem])|(refine ⟨fun h=>?_,fun h=>?_⟩<;>first|(cases h;done)|try simp only [h])|fail))
     try simp only [AT,AX,A0,AZ] at hb2 ⊢
     exact Run.fin Bc rfl (fun _ _ h=>h) (AM.le_refl _) ⟨rfl,hb2⟩
 have hn':=hn
 simp only [HT,AN] at hn'
 obtain ⟨⟨⟨⟨hnm,hnu⟩,hns⟩,has⟩,hnk⟩:=hn'
 have hop:=kH hnk
 have hpo:rL o:=by unfold rL;unfold kF at ho;omega
 have hl:=rN hn hpo hko
 simp only [exA,Ex.A2,AD,AG] at hlv hl ⊢
 generalize lvl (.mk o n u ns ks al)=lv at hlv hlt
 generalize BA (.mk o n u ns ks al)=txt at hl hlen ⊢
 simp only [kF,not_or] at ho
 obtain ⟨h1,h2,h3,h4,h5,h6⟩:=ho
 (repeat' (first|refine Run.ct rfl ?_|((first|refine Run.reg mixed ?_|refine Run.AJ ?_|(refine AI.mk rfl (hl σ0 σ _ hH hb0 (by (try simp only [AE,AA,AH] at hlen ⊢);omega)) ?_;rintro _ σ1 ⟨rfl,hb1⟩)|refine AI.det (hlv) ?_|(refine AP rfl (fun h=>?_) (fun h=>?_)<;>try (cases h;done)))<;>try simp -implicitDefEqProofs only [A7,ltI,hlt,Ds h1,Ds h2,Ds h3,Ds h4,Ds h5,Ds h6,Ds h12,Ds h13,go_sem])|(refine ⟨fun h=>?_,fun h=>?_⟩<;>first|(cases h;done)|try simp only [h])|fail))
 try simp only [AT,AX,A0,AZ] at hb1 ⊢
 exact Run.fin Bc rfl (fun _ _ h=>h) (AM.le_refl _) ⟨rfl,hb1⟩
theorem lR {i:Nat} {o:Int} {n:Str} {u:Int} {ns:List Str} {ks:List Ex} {al:List Al} (hn:HT o n u ns ks.length al=true)
 (hk:∀x∈ks,∀lev,EC i x lev)
 (ha:∀x∈al,∀j,WX (fun σ=>σ.blk j=some [.gp i 0]) 143 ([]++[alA x]++[.gp j 0]) i (NJ x)) (lev:Nat):EC i (.mk o n u ns ks al) lev:=by
 by_cases hlv0:lvl (.mk o n u ns ks al) < lev
 · have hpa:=PN (bX (Zm hn hk ha 0 (by omega)))
   intro σ0 σ s hH hb0 hlen
   rw [pl,if_pos hlv0] at hlen ⊢
   have hlv:=eG (.mk o n u ns ks al) σ
   have hlt:decide (lvl (.mk o n u ns ks al) < lev)=true:=decide_eq_true hlv0
   refine KS (by simp) ?_
   rw [Fb]
   simp only [exA,Ex.A2,AD,AG] at hlv hpa ⊢
   generalize lvl (.mk o n u ns ks al)=lv at hlv hlt
   generalize J7 (BA (.mk o n u ns ks al))=txt at hpa hlen ⊢
   (repeat' (first|refine Run.ct rfl ?_|((first|refine Run.reg mixed ?_|refine Run.AJ ?_|(refine AI.mk rfl (hpa σ0 σ _ hH hb0 (by (try simp only [AE,AA,AH] at hlen ⊢);omega)) ?_;rintro _ σ1 ⟨rfl,hb1⟩)|refine AI.det (hlv) ?_|(refine AP rfl (fun h=>?_) (fun h=>?_)<;>try (cases h;done)))<;>try simp -implicitDefEqProofs only [ltI,hlt,go_sem])|(refine ⟨fun h=>?_,fun h=>?_⟩<;>first|(cases h;done)|try simp only [h])|fail))
   exact Run.I8 Bc (AM.le_refl _) ⟨rfl,hb1⟩
 · exact Zm hn hk ha lev hlv0
mutual
theorem aY (i:Nat):∀(e:Ex),e.nb→∀lev,EC i e lev
 | .mk o n u ns ks al,h,lev=>by
  rw [Ex.nb] at h
  exact lR h.1 (dL i ks h.2.1) (jR i al h.2.2) lev
theorem dL (i:Nat):∀(l:List Ex),Ex.nbs l→∀x∈l,∀lev,EC i x lev
 |[],_,x,hx,_=>by cases hx
 |e::l,h,x,hx,lev=>by
  rw [Ex.nbs] at h
  rcases CN.1 hx with hxe|hx
  · rw [hxe];exact aY i e h.1 lev
  · exact dL i l h.2 x hx lev
theorem jR (i:Nat):∀(l:List Al),Al.nbs l→∀x∈l,∀j,WX (fun σ=>σ.blk j=some [.gp i 0]) 143 ([]++[alA x]++[.gp j 0]) i (NJ x)
 |[],_,x,hx,_=>by cases hx
 | .mk c vs b::l,h,x,hx,j=>by
  rw [Al.nbs,Al.nb] at h
  rcases CN.1 hx with hxe|hx
  · rw [hxe];exact w9 j (bX (aY i b h.1 0))
  · exact jR i l h.2 x hx j
end
end Go.Ab
namespace Go.Ab
theorem IB {s:Str} (h:Hi s=true):s.length≤24:=by
 obtain ⟨b,r,rfl,_,_,h3,h4⟩:=YO h
 first|exact h3|exact h4|omega
theorem PI {s:Str} (h:upperB s=true):s.length≤24:=by
 obtain ⟨b,r,rfl,_,_,h4⟩:=WW h
 exact h4
theorem VN {s:Str} (h:Ha s=true):(shown s).length≤24:=by
 rw [shown]
 split
 · simp
 · rename_i hs
   simp only [Ha,BM,beq_iff_eq] at h
   exact IB (h.resolve_left hs)
def JL (l:List Str):Nat:=EB (fun x=>x.length+3) l
theorem Gd (x:Str) (l:List Str):JL (x::l)=x.length+3+JL l:=by simp [JL,EB]
theorem j6 (sep:Str) (hs:sep.length≤3):∀l:List Str,(Lib.joinTail sep l).length≤JL l
 |[]=>by simp [Lib.joinTail,JL,EB]
 |x::l=>by
  have:=j6 sep hs l
  rw [Gd]
  simp only [Lib.joinTail,AD,Cj,AA] at this ⊢
  omega
theorem Sq {sep:Str} (hs:sep.length≤3) (l:List Str):(Lib.join l sep).length≤JL l:=by
 cases l with
 |nil=>simp [Lib.join_nil]
 |cons x l=>
  rw [Lib.join_cons,Gd,AA]
  have:=j6 sep hs l
  omega
theorem PH (l:List Str):(JA l).length≤2+JL l:=by
 rw [JA]
 split
 · simp
 · have:=Sq (sep:=[44,32]) (by decide) l
   simp only [J7,cms,AE,AA,AH];omega
theorem SQ (l:List Str):(Iz l).length≤2+JL l:=by
 have:=Sq (sep:=[44,32]) (by decide) l
 simp only [Iz,J7,cms,AE,AA,AH];omega
theorem Z6 {l:List Str} {N:Nat} (h:∀x∈l,x.length≤N):JL l≤l.length * (N+3):=by
 induction l with
 |nil=>simp [JL,EB]
 |cons x l ih=>
  rw [Gd,AE,Li]
  have h1:=h x (Ad ..)
  have h2:=ih (fun y hy=>h y (Ah _ hy))
  omega
theorem wP {α:Type} (f:α→Str) (μ:α→Nat) (l:List α) (h:∀x∈l,(f x).length+3≤μ x):JL (l.map f)≤EB μ l:=by
 induction l with
 |nil=>simp [JL,EB]
 |cons x l ih=>
  rw [AD,Gd]
  have h1:=h x (Ad ..)
  have h2:=ih (fun y hy=>h y (Ah _ hy))
  simp only [EB,AD,List.sum_cons] at h2 ⊢
  omega
theorem r8 {α:Type} (c:Nat) (μ:α→Nat) (l:List α):EB (fun x=>c * μ x) l=c * EB μ l:=by
 induction l with
 |nil=>simp [EB]
 |cons x l ih=>simp only [EB,AD,List.sum_cons,Nat.mul_add] at ih ⊢;omega
theorem Zq:∀l:List Str,JL l.dropLast+(l.getLastD []).length≤JL l
 |[]=>by simp [JL,EB]
 |[x]=>by simp [JL,EB]
 |x::y::l=>by
  have:=Zq (y::l)
  rw [List.dropLast_cons_cons,Gd,Gd]
  have e:(x::y::l).getLastD []=(y::l).getLastD []:=by simp
  rw [e];omega
theorem rY {k:Int} {n:Str} {q:Nat} (h:DN k n q=true):n.length≤24:=by
 unfold DN at h
 repeat' (split at h)
 all_goals simp only [AN,beq_iff_eq,A1] at h
 all_goals first|exact IB h.1|exact PI h.1|(have:=h.1;subst this;simp)|(have:=h.1.1;subst this;simp)
theorem qB {k:Int} {n:Str} (hn:n.length≤24) (ts:List Str):(tyN k n ts).length≤40+JL ts:=by
 have h1:=PH ts
 have h2:=SQ ts.dropLast
 have h3:=Zq ts
 unfold tyN
 repeat' split
 all_goals simp only [AA,AE,AH]
 all_goals omega
theorem eC:∀(d:Nat) (t:TE),Du d t=true→(Ct t).length+3≤60 * t.size
 |0,t,h=>by simp [Du] at h
 |d+1,.mk k n l,h=>by
  rw [Du,AN,A5] at h
  rw [Ct,Pz,TE.size,P8]
  have h1:=qB (k:=k) (rY h.1) (l.map Ct)
  have h2:=wP Ct (fun t=>60 * t.size) l (fun x hx=>eC d x (h.2 x hx))
  rw [r8] at h2
  omega
theorem uM {o:Int} {n:Str} (h:nmB o n=true):n.length≤24∧(shown n).length≤24:=by
 unfold nmB at h
 have hs:n.length≤24→(shown n).length≤24:=fun h=>by rw [shown];split<;>simp_all
 repeat' (split at h)
 · exact ⟨IB h,hs (IB h)⟩
 · exact ⟨PI h,hs (PI h)⟩
 · refine ⟨?_,VN h⟩
   simp only [Ha,BM,beq_iff_eq] at h
   rcases h with rfl|h
   · simp
   · exact IB h
 · simp only [beq_iff_eq] at h;subst h;exact ⟨by simp,by decide⟩
theorem uT {o:Int} {ns:List Str} (h:nsB o ns=true):JL (ns.map shown)≤162∧JL ns≤162:=by
 have key:∀m:List Str,m.length≤6→(∀x∈m,x.length≤24)→JL m≤162:=fun m h1 h2=>by
  have:=Z6 h2
  have:m.length * 27≤6 * 27:=Ak _ h1
  omega
 have hb:∀s:Str,Ha s=true→s.length≤24:=fun s h=>by
  simp only [Ha,BM,beq_iff_eq] at h
  rcases h with rfl|h
  · simp
  · exact IB h
 have hnb:∀s:Str,Hi s=true→Ha s=true:=fun s h=>by simp [Ha,h]
 unfold nsB at h
 split at h
 · simp only [AN,decide_eq_true_eq,A5] at h
   refine ⟨key _ (by simpa using h.1.2) (fun x hx=>?_),key _ h.1.2 (fun x hx=>hb x (h.2 x hx))⟩
   obtain ⟨y,hy,rfl⟩:=Lg.1 hx
   exact VN (h.2 y hy)
 · split at h
   · simp only [AN,decide_eq_true_eq,A5] at h
     refine ⟨key _ (by simpa using h.1) (fun x hx=>?_),key _ h.1 (fun x hx=>IB (h.2 x hx))⟩
     obtain ⟨y,hy,rfl⟩:=Lg.1 hx
     exact VN (hnb y (h.2 y hy))
   · rw [decide_eq_true_eq,List.length_eq_zero_iff] at h
     subst h;simp [JL,EB]
theorem pY {c:Str} {vs:List Str} {b:Ex} (h:Tz (.mk c vs b)=true):(NJ (.mk c vs b)).length≤200+(BA b).length:=by
 simp only [Tz,AN,decide_eq_true_eq,A5] at h
 rw [NJ,alT]
 have h1:=PI h.1.1
 have h2:=PH (vs.map shown)
 have h3:JL (vs.map shown)≤(vs.map shown).length * 27:=Z6 (fun x hx=>by obtain ⟨y,hy,rfl⟩:=Lg.1 hx;exact VN (h.2 y hy))
 have h4:(vs.map shown).length * 27≤6 * 27:=Ak _ (by simpa using h.1.2)
 simp only [AA,AE,AH]
 omega
theorem tM (l:List Str):(at0 l 0).length+JL l.tail≤JL l:=by
 cases l with
 |nil=>simp [at0,JL,EB]
 |cons x l=>
  rw [Gd]
  show x.length+JL l≤_
  omega
theorem dZ (l:List Str):(at0 l 0).length+(at0 l 1).length+(at0 l 2).length≤JL l:=by
 match l with
 |[]=>simp [at0,JL,EB]
 |[x]=>simp [at0,JL,EB]
 |[x,y]=>
  rw [Gd,Gd]
  show x.length+y.length+0≤_
  omega
 |x::y::z::l=>
  rw [Gd,Gd,Gd]
  show x.length+y.length+z.length≤_
  omega
theorem bM (d:Nat) (k:Ex) (t:Str):(pl d k t).length≤2+t.length:=by
 rw [pl];split
 · simp only [J7,AE,AA,AH];omega
 · omega
theorem eB (t:Str):(J7 t).length≤2+t.length:=by simp only [J7,AE,AA,AH];omega
theorem pZ (ks:List Ex) (ts:List Str):(xD ks ts).length≤8+JL ts:=by
 unfold xD
 have h1:=SQ ts.tail
 have h2:=tM ts
 split
 · omega
 · have h3:=eB (at0 ts 0)
   rename_i k _
   have h4:=bM 4 k (at0 ts 0)
   rw [AA]
   split<;>omega
theorem qA (u:Int):(opT u).length≤10:=by
 unfold opT VV
 split<;>decide
theorem p9 (u:Int) (ks:List Ex) (ts:List Str):(xH u ks ts).length≤20+JL ts:=by
 unfold xH
 have h2:=dZ ts
 have h3:=qA u
 split
 · rename_i a b
   have h4:=bM (if Ef u=1 then 2 else Ef u) a (at0 ts 0)
   have h5:=bM (if Ef u=1 then 2 else Ef u+1) b (at0 ts 1)
   simp only [AA,AE]
   omega
 · simp
theorem tP (u:Int):(prT u).length≤10:=by
 unfold prT
 repeat' split
 all_goals decide
theorem tO {o u:Int} (h:nuB o u=true):(Lib.itoa u).length≤21:=by
 refine Lib.itoa_length_le u ?_ ?_
 all_goals
  unfold nuB at h
  repeat' (split at h)
  all_goals simp only [AN,decide_eq_true_eq,beq_iff_eq] at h
  all_goals omega
theorem tN {o:Int} {n:Str} {u:Int} {ns:List Str} (hn:nmB o n=true) (hu:nuB o u=true) (hs:nsB o ns=true) (ks:List Ex) (ts as':List Str):(Pu o n u ns ks ts as').length≤250+JL ts+JL as':=by
 obtain ⟨h1,h2⟩:=uM hn
 obtain ⟨h3,h4⟩:=uT hs
 have h5:=PH ts
 have h6:=SQ ts
 have h7:=dZ ts
 have h8:=pZ ks ts
 have h9:=p9 u ks ts
 have h10:=tP u
 have h11:=tO hu
 have h12:=eB (Lib.itoa u)
 have h13:=PH (ns.map shown)
 have h14:=SQ ns
 have h15:=Sq (sep:=[32,124,32]) (by decide) as'
 unfold Pu
 by_cases h:o=7
 · rw [if_pos h];try simp only [AA,AE,AH]
   omega
 rw [if_neg h];clear h
 by_cases h:o=8
 · rw [if_pos h];try simp only [AA,AE,AH]
   omega
 rw [if_neg h];clear h
 by_cases h:o=9
 · rw [if_pos h];try simp only [AA,AE,AH]
   omega
 rw [if_neg h];clear h
 by_cases h:o=10
 · rw [if_pos h];try simp only [AA,AE,AH]
   omega
 rw [if_neg h];clear h
 by_cases h:o=11
 · rw [if_pos h];try simp only [AA,AE,AH]
   omega
 rw [if_neg h];clear h
 by_cases h:o=17
 · rw [if_pos h];try simp only [AA,AE,AH]
   omega
 rw [if_neg h];clear h
 by_cases h:o=13
 · rw [if_pos h];try simp only [AA,AE,AH]
   omega
 rw [if_neg h];clear h
 by_cases h:o=12
 · rw [if_pos h];try simp only [AA,AE,AH]
   omega
 rw [if_neg h];clear h
 by_cases h:o=1
 · rw [if_pos h];try simp only [AA,AE,AH]
   omega
 rw [if_neg h];clear h
 by_cases h:o=2
 · rw [if_pos h];split<;>(simp only [AE,AH];omega)
 rw [if_neg h];clear h
 by_cases h:o=3
 · rw [if_pos h];try simp only [AA,AE,AH]
   omega
 rw [if_neg h];clear h
 by_cases h:o=5
 · rw [if_pos h];try simp only [AA,AE,AH]
   omega
 rw [if_neg h];clear h
 by_cases h:o=14
 · rw [if_pos h];try simp only [AA,AE,AH]
   omega
 rw [if_neg h];clear h
 by_cases h:o=16
 · rw [if_pos h];try simp only [AA,AE,AH]
   omega
 rw [if_neg h];clear h
 by_cases h:o=15
 · rw [if_pos h];try simp only [AA,AE,AH]
   omega
 rw [if_neg h];clear h
 rw [AA];omega
mutual
theorem bL:∀(e:Ex),e.nb→(BA e).length+250≤800 * e.size
 | .mk o n u ns ks al,h=>by
  rw [Ex.nb] at h
  have hn:=h.1
  simp only [HT,AN] at hn
  obtain ⟨⟨⟨⟨hnm,hnu⟩,hns⟩,has⟩,hnk⟩:=hn
  rw [BA,Ex.size]
  have h1:=tN hnm hnu hns ks (W7 ks) (KH al)
  have h2:=eA ks h.2.1
  have h3:=dY al h.2.2 (fZ has)
  omega
theorem eA:∀(l:List Ex),Ex.nbs l→JL (W7 l)≤800 * Ex.At l
 |[],_=>by simp [W7,JL,EB]
 |e::l,h=>by
  rw [Ex.nbs] at h
  have h1:=bL e h.1
  have h2:=eA l h.2
  rw [W7,Gd,Ex.At]
  omega
theorem dY:∀(l:List Al),Al.nbs l→(∀a∈l,Tz a=true)→JL (KH l)≤800 * Al.At l
 |[],_,_=>by simp [KH,JL,EB]
 | .mk c vs b::l,h,ha=>by
  rw [Al.nbs,Al.nb] at h
  have h1:=bL b h.1
  have h2:=dY l h.2 (fun a hx=>ha a (Ah _ hx))
  have h3:=pY (ha _ (Ad ..))
  rw [KH,Gd,Al.At,Al.size]
  omega
end
theorem Sp {α:Type} {f:Nat→α→Option Nat} {μ:α→Nat}:∀(l:List α) (q r:Nat),(∀x∈l,∀a b,f a x=some b→μ x+b≤a)→l.foldlM f q=some r→EB μ l+r≤q
 |[],q,r,_,h=>by
  simp only [List.foldlM_nil] at h
  cases h
  simp [EB]
 |y::l,q,r,hf,h=>by
  rw [List.foldlM_cons,AS,AB] at h
  obtain ⟨b,hb,h⟩:=h
  have h1:=hf y (Ad ..) q b hb
  have h2:=Sp l b r (fun x hx=>hf x (Ah _ hx)) h
  simp only [EB,AD,List.sum_cons] at h2 ⊢
  omega
theorem Zp:∀l:List Ex,Ex.At l=EB Ex.size l
 |[]=>rfl
 |e::l=>by rw [Ex.At,Zp l];simp [EB]
theorem Zo:∀l:List Al,Al.At l=EB Al.size l
 |[]=>rfl
 |e::l=>by rw [Al.At,Zo l];simp [EB]
theorem jH:∀(d q:Nat) (e:Ex) (r:Nat),vEx d q e=some r→e.size+r≤q
 |0,q,.mk ..,r,h=>by simp [vEx] at h
 |d+1,0,.mk ..,r,h=>by cases h
 |d+1,q+1,.mk o n u ns ks al,r,h=>by
  simp only [vEx] at h
  split at h
  · rw [AB] at h
    obtain ⟨c,hc,h⟩:=h
    have h1:=Sp (μ:=Ex.size) ks q c (fun x _ a b hab=>jH d a x b hab) hc
    have h2:=Sp (μ:=Al.size) al c r (fun x _ a b hab=>by
     obtain ⟨cc,vs,bd⟩:=x
     rw [Al.size]
     exact jH d a bd b hab) h
    rw [Ex.size,Zp,Zo]
    omega
  · cases h
theorem cR {q r:Nat} {f:FE} (h:ZA q f=some r):OF f=true∧f.body.nb∧f.body.size+r≤q:=by
 unfold ZA at h
 split at h
 · rename_i hh;exact ⟨hh,cQ _ _ _ _ h,jH _ _ _ _ h⟩
 · cases h
theorem Wh {p:Pg} (h:Fu p=true):(p.data.length≤12∧∀d∈p.data,KG d=true)∧p.Ru.length≤24∧∀f∈p.Ru,OF f=true∧f.body.nb∧f.body.size≤600:=by
 simp only [Fu,AN,decide_eq_true_eq,A5] at h
 obtain ⟨⟨⟨h1,h2⟩,h3⟩,h4⟩:=h
 obtain ⟨r,hr⟩:=Wk.1 h4
 have hs:=Sp (μ:=fun f=>f.body.size) p.Ru 600 r (fun x _ a b hab=>(cR hab).2.2) hr
 have ha:=Ot (Q:=fun f=>OF f=true∧f.body.nb) p.Ru 600 r (fun x _ a b hab=>⟨(cR hab).1,(cR hab).2.1⟩) hr
 refine ⟨⟨h1,h3⟩,h2,fun f hf=>⟨(ha f hf).1,(ha f hf).2,?_⟩⟩
 have:=V5 (μ:=fun f:FE=>f.body.size) hf
 omega
theorem Vt {α:Type} (f:α→Str) (N:Nat):∀l:List α,(∀x∈l,(f x).length≤N)→(l.map f).flatten.length≤l.length * N
 |[],_=>by simp
 |x::l,h=>by
  have h1:=h x (Ad ..)
  have h2:=Vt f N l (fun y hy=>h y (Ah _ hy))
  rw [AD,Cj,AA,AE,Li]
  omega
theorem mO {c:CE} (h:Wo c=true) (hs:∀t∈c.args,t.size≤100000):(fmtC c).length≤40000000:=by
 simp only [Wo,AN,decide_eq_true_eq,A5] at h
 rw [fmtC,AA]
 have h1:=PI h.1.1
 have h2:=PH (c.args.map Ct)
 have h3:JL (c.args.map Ct)≤(c.args.map Ct).length * (6000000+3):=Z6 (fun x hx=>by
  obtain ⟨t,ht,rfl⟩:=Lg.1 hx
  have:=eC 40 t (h.2 t ht)
  have:=hs t ht
  omega)
 have h4:(c.args.map Ct).length * (6000000+3)≤6 * (6000000+3):=Ak _ (by simpa using h.1.2)
 omega
theorem hG {d:DE} (h:KG d=true) (hs:∀c∈d.cons,∀t∈c.args,t.size≤100000):(UI d).length≤400000000:=by
 simp only [KG,AN,decide_eq_true_eq,A5] at h
 obtain ⟨⟨⟨⟨⟨h1,h2⟩,h3⟩,h4⟩,h5⟩,h6⟩:=h
 rw [UI]
 have g1:=PI h1
 have g2:=PH d.vars
 have g3:JL d.vars≤d.vars.length * 27:=Z6 (fun x hx=>IB (h3 x hx))
 have g4:d.vars.length * 27≤6 * 27:=Ak _ h2
 have g5:=Sq (sep:=[32,124,32]) (by decide) (d.cons.map fmtC)
 have g6:JL (d.cons.map fmtC)≤(d.cons.map fmtC).length * (40000000+3):=Z6 (fun x hx=>by
  obtain ⟨t,ht,rfl⟩:=Lg.1 hx
  exact mO (h6 t ht) (hs t ht))
 have g7:(d.cons.map fmtC).length * (40000000+3)≤8 * (40000000+3):=Ak _ (by simpa using h5)
 simp only [AA,AE,AH]
 omega
theorem mP {f:FE} (h:OF f=true) (hb:f.body.nb) (hs:f.body.size≤600):(Vn f).length≤1000000:=by
 simp only [OF,AN,decide_eq_true_eq,A5] at h
 rw [Vn]
 have g1:=IB h.1.1
 have g2:=SQ f.params
 have g3:JL f.params≤f.params.length * 27:=Z6 (fun x hx=>IB (h.2 x hx))
 have g4:f.params.length * 27≤6 * 27:=Ak _ h.1.2
 have g5:=bL f.body hb
 simp only [AA,AE,AH]
 omega
theorem tH {p:Pg} (h:Fu p=true) (hs:∀d∈p.data,∀c∈d.cons,∀t∈c.args,t.size≤100000):(ZP p).length≤10000000000:=by
 obtain ⟨⟨h1,h2⟩,h3,h4⟩:=Wh h
 rw [ZP,AA]
 have g1:=Vt UI 400000000 p.data (fun d hd=>hG (h2 d hd) (hs d hd))
 have g2:=Vt Vn 1000000 p.Ru (fun f hf=>mP (h4 f hf).1 (h4 f hf).2.1 (h4 f hf).2.2)
 have g3:p.data.length * 400000000≤12 * 400000000:=Ak _ h1
 have g4:p.Ru.length * 1000000≤24 * 1000000:=Ak _ h3
 omega
end Go.Ab
