/- The printer: expressions. Lengths of texts. Conditions: none. -/
import Derived.Lib.ItoaLen
import Derived.Test.YtifplkldbbcldaaGreatDoorXRe
set_option linter.unusedSimpArgs false
set_option linter.unusedVariables false
set_option maxRecDepth 4000
set_option maxHeartbeats 8000000
open List renaming all_eq_true→A6,mem_cons→CN,mem_map→LY,take_of_length_le→A8,map_cons→AF,map_nil→AI,length_cons→AE,length_append→AA,length_nil→AH,append_assoc→AT,cons_append→A0,nil_append→A3,append_nil→AZ,mem_cons_of_mem→Ah,mem_cons_self→Ae,getElem?_cons_zero→Cq,length_map→AB,flatten_cons→Ce,length_eq_zero_iff→XU
open Int renaming reduceBEq→A4,toNat_zero→OY
open Bool renaming and_eq_true→AN,or_eq_true→BT,false_eq_true→AU
open Option renaming bind_some→B3,bind_eq_bind→AS,bind_eq_some_iff→AD,isSome_iff_exists→W4
open Nat renaming succ_mul→L1,mul_le_mul_right→Ak
namespace Go.Ab
open Go.Proofs
theorem ltI (a b:Nat):decide ((a:Int) < (b:Int))=decide (a < b):=decide_eq_decide.2 (by omega)
theorem eqS (n:Nat):(((n+1:Nat):Int)==0)=false:=C4 (by omega)
theorem tF (f:Ex) (l:List Ex):dB (List.map Ex.enc (f::l)) (some (.d (.int .i64 1))) none none 6=some (.d (.sl (l.map Ex.enc))):=by
 simp [dB,W6,Uz]
 refine ⟨?_,?_⟩
 · rw [j9,A6]
   intro r hr
   rw [beq_iff_eq]
   rcases CN.1 hr with rfl|hr
   · obtain ⟨o,n,u,ns,ks,al⟩:=f;rfl
   · obtain ⟨x,_,rfl⟩:=LY.1 hr
     obtain ⟨o,n,u,ns,ks,al⟩:=x;rfl
 · rw [A8 (by simp)]
set_option maxHeartbeats 8000000 in
theorem aD {i:Nat} {o:Int} {n:Str} {u:Int} {ns:List Str} {ks:List Ex} {al:List Al} (hn:GU o n u ns ks.length al=true)
 (hk:∀x∈ks,∀lev,EC i x lev)
 (ha:∀x∈al,∀j,WX (fun σ=>σ.blk j=some [.gp i 0]) 143 ([]++[alA x]++[.gp j 0]) i (Mr x)) (lev:Nat) (hlv0:¬lvl (.mk o n u ns ks al) < lev):EC i (.mk o n u ns ks al) lev:=by
 have hko:∀x∈ks,WC 139 [.gp i 0,exA x] i (Az x):=fun x hx=>cP (hk x hx 0)
 intro σ0 σ s hH hb0 hlen
 rw [pl,if_neg hlv0] at hlen ⊢
 have hlv:=eY (.mk o n u ns ks al) σ
 have hlt:decide (lvl (.mk o n u ns ks al) < lev)=false:=decide_eq_false hlv0
 refine Jv (by simp) ?_
 rw [Ha]
 by_cases ho:lN o
 · have hl:=vT hn ho hko ha
   simp only [exA,Ex.A1,AF,AI] at hlv hl ⊢
   generalize lvl (.mk o n u ns ks al)=lv at hlv hlt
   generalize Az (.mk o n u ns ks al)=txt at hl hlen ⊢
   rcases ho with rfl|rfl|rfl|rfl|rfl|rfl
   all_goals (repeat' (first|refine Run.ct rfl ?_|((first|refine Run.reg mixed ?_|refine Run.AJ ?_|(refine AG.mk rfl (hl σ0 σ _ hH hb0 (by (try simp only [AE,AA,AH] at hlen ⊢);omega)) ?_;rintro _ σ1 ⟨rfl,hb1⟩)|refine AG.det (hlv) ?_|(refine AP rfl (fun h=>?_) (fun h=>?_)<;>try (cases h;done)))<;>try simp -implicitDefEqProofs only [A4,ltI,hlt,go_sem])|(refine ⟨fun h=>?_,fun h=>?_⟩<;>first|(cases h;done)|try simp only [h])|fail))
   all_goals try simp only [AT,A0,A3,AZ] at hb1 ⊢
   all_goals exact Run.fin Bf rfl (fun _ _ h=>h) (AM.le_refl _) ⟨rfl,hb1⟩
 by_cases h13:o=13
 · subst h13
   have hn':=hn
   simp only [GU,AN] at hn'
   obtain ⟨⟨⟨⟨hnm,hnu⟩,hns⟩,has⟩,hnk⟩:=hn'
   simp [nuB] at hnu
   obtain ⟨a,b,rfl⟩:=TG (by simpa [nkB] using hnk)
   have hka:=hk a (by simp) (plL u)
   have hkb:=hk b (by simp) (plR u)
   have hpl:=Vk u σ
   have e:Az (.mk 13 n u ns [a,b] al)=pl (plL u) a (Az a)++([32]++(opT u++([32]++pl (plR u) b (Az b)))):=by
    rw [Az,M6];rfl
   rw [e] at hlen ⊢
   clear e
   unfold EC at hka hkb
   generalize pl (plL u) a (Az a)=ta at *
   generalize pl (plR u) b (Az b)=tb at *
   obtain ⟨oa,na,ua,nsa,ksa,ala⟩:=a
   obtain ⟨ob,nb,ub,nsb,ksb,alb⟩:=b
   simp only [exA,Ex.A1,AF,AI] at hka hkb hlv ⊢
   generalize lvl _=lv at hlv hlt
   have hlen2:=hlen
   simp only [AE,AA,AH] at hlen2
   have ha1:=HN (a:=[32]) (b:=opT u) (by simp only [AE,AH];omega)
   have ha2:=HN (a:=[32]++opT u) (b:=[32]) (by simp only [AA,AE,AH];omega)
   simp only [A0,A3] at ha1 ha2
   have hot:=fun σ=>Q8 u σ ⟨hnu.1,hnu.2⟩
   (repeat' (first|refine Run.ct rfl ?_|((first|refine Run.reg mixed ?_|refine Run.AJ ?_|(refine AG.mk rfl (hka σ0 σ _ hH hb0 (by (try simp only [AE,AA,AH] at hlen ⊢);omega)) ?_;rintro _ σ1 ⟨rfl,hb1⟩)|refine AG.det (hlv) ?_|refine AG.det (hpl) ?_|(refine AP rfl (fun h=>?_) (fun h=>?_)<;>try (cases h;done)))<;>try simp -implicitDefEqProofs only [A4,ltI,hlt,ha1,ha2,go_sem])|(refine ⟨fun h=>?_,fun h=>?_⟩<;>first|(cases h;done)|try simp only [h])|fail))
   (repeat' (first|refine Run.ct rfl ?_|((first|refine Run.reg mixed ?_|refine Run.AJ ?_|(refine AG.mk rfl (A5 _ hb1 (by (try simp only [AE,AA,AH] at hlen ⊢);omega)) ?_;rintro _ σ2 ⟨rfl,hb2⟩)|refine AG.det (hot _) ?_|(refine AP rfl (fun h=>?_) (fun h=>?_)<;>try (cases h;done)))<;>try simp -implicitDefEqProofs only [A4,ltI,hlt,ha1,ha2,go_sem])|(refine ⟨fun h=>?_,fun h=>?_⟩<;>first|(cases h;done)|try simp only [h])|fail))
   (repeat' (first|refine Run.ct rfl ?_|((first|refine Run.reg mixed ?_|refine Run.AJ ?_|(refine AG.mk rfl (hkb σ0 σ2 _ hH hb2 (by (try simp only [AE,AA,AH] at hlen ⊢);omega)) ?_;rintro _ σ3 ⟨rfl,hb3⟩)|(refine AP rfl (fun h=>?_) (fun h=>?_)<;>try (cases h;done)))<;>try simp -implicitDefEqProofs only [A4,ltI,hlt,ha1,ha2,go_sem])|(refine ⟨fun h=>?_,fun h=>?_⟩<;>first|(cases h;done)|try simp only [h])|fail))
   try simp only [AT,A0,A3,AZ] at hb3 ⊢
   exact Run.fin Bf rfl (fun _ _ h=>h) (AM.le_refl _) ⟨rfl,hb3⟩
 by_cases h12:o=12
 · subst h12
   have hn':=hn
   simp only [GU,AN] at hn'
   obtain ⟨⟨⟨⟨hnm,hnu⟩,hns⟩,has⟩,hnk⟩:=hn'
   cases ks with
   |nil=>simp [nkB] at hnk
   |cons f l=>
   have hli:=lM (i:=i) (ks:=l) (fun x hx=>hko x (Ah _ hx))
   have hf4:=hk f (Ae ..) 4
   have hfp:=Ou (hko f (Ae ..))
   have e:Az (.mk 12 n u ns (f::l) al)=(if Mc f then JT (Az f) else pl 4 f (Az f))++Il (l.map Az):=by
    rw [Az,M6];rfl
   rw [e] at hlen ⊢
   clear e
   unfold EC at hf4
   have hsl:dB (List.map Ex.enc (f::l)) (some (.d (.int .i64 1))) none none 6=some (.d (.sl (l.map Ex.enc))):=tF f l
   generalize hpp:JT (Az f)=tp at *
   generalize pl 4 f (Az f)=tq at *
   clear hpp
   obtain ⟨of,nf,uf,nsf,ksf,alf⟩:=f
   simp only [exA,Ex.A1,AF,AI] at hf4 hfp hlv hsl ⊢
   generalize lvl _=lv at hlv hlt
   by_cases h6:of=6
   · subst h6
     cases ksf with
     |nil=>
      have hbc:Mc (.mk 6 nf uf nsf [] alf)=true:=rfl
      rw [hbc,if_pos rfl] at hlen ⊢
      simp only [AI] at hf4 hfp hlv hsl ⊢
      (repeat' (first|refine Run.ct rfl ?_|((first|refine Run.reg mixed ?_|refine Run.AJ ?_|(refine AG.mk rfl (hfp σ0 σ _ hH hb0 (by (try simp only [AE,AA,AH] at hlen ⊢);omega)) ?_;rintro _ σ1 ⟨rfl,hb1⟩)|refine AG.det (hlv) ?_|(refine AP rfl (fun h=>?_) (fun h=>?_)<;>try (cases h;done)))<;>try simp -implicitDefEqProofs only [A4,ltI,hlt,hsl,Int.le_refl,if_true,OY,Cq,B3,AE,AH,go_sem])|(refine ⟨fun h=>?_,fun h=>?_⟩<;>first|(cases h;done)|try simp only [h])|fail))
      (repeat' (first|refine Run.ct rfl ?_|((first|refine Run.reg mixed ?_|refine Run.AJ ?_|(refine AG.mk rfl (hli σ0 σ1 _ hH hb1 (by (try simp only [AE,AA,AH] at hlen ⊢);omega)) ?_;rintro _ σ2 ⟨rfl,hb2⟩)|(refine AP rfl (fun h=>?_) (fun h=>?_)<;>try (cases h;done)))<;>try simp -implicitDefEqProofs only [A4,ltI,hlt,hsl,Int.le_refl,if_true,OY,Cq,B3,AE,AH,go_sem])|(refine ⟨fun h=>?_,fun h=>?_⟩<;>first|(cases h;done)|try simp only [h])|fail))
      try simp only [AT,A0,A3,AZ] at hb2 ⊢
      exact Run.fin Bf rfl (fun _ _ h=>h) (AM.le_refl _) ⟨rfl,hb2⟩
     |cons k1 l1=>
      have hbc:Mc (.mk 6 nf uf nsf (k1::l1) alf)=false:=rfl
      rw [hbc,if_neg (by decide)] at hlen ⊢
      simp only [AF] at hf4 hfp hlv hsl ⊢
      (repeat' (first|refine Run.ct rfl ?_|((first|refine Run.reg mixed ?_|refine Run.AJ ?_|(refine AG.mk rfl (hf4 σ0 σ _ hH hb0 (by (try simp only [AE,AA,AH] at hlen ⊢);omega)) ?_;rintro _ σ1 ⟨rfl,hb1⟩)|refine AG.det (hlv) ?_|(refine AP rfl (fun h=>?_) (fun h=>?_)<;>try (cases h;done)))<;>try simp -implicitDefEqProofs only [A4,ltI,hlt,hsl,Int.le_refl,if_true,OY,Cq,B3,AE,AH,eqS,AB,go_sem])|(refine ⟨fun h=>?_,fun h=>?_⟩<;>first|(cases h;done)|try simp only [h])|fail))
      (repeat' (first|refine Run.ct rfl ?_|((first|refine Run.reg mixed ?_|refine Run.AJ ?_|(refine AG.mk rfl (hli σ0 σ1 _ hH hb1 (by (try simp only [AE,AA,AH] at hlen ⊢);omega)) ?_;rintro _ σ2 ⟨rfl,hb2⟩)|(refine AP rfl (fun h=>?_) (fun h=>?_)<;>try (cases h;done)))<;>try simp -implicitDefEqProofs only [A4,ltI,hlt,hsl,Int.le_refl,if_true,OY,Cq,B3,AE,AH,eqS,AB,go_sem])|(refine ⟨fun h=>?_,fun h=>?_⟩<;>first|(cases h;done)|try simp only [h])|fail))
      try simp only [AT,A0,A3,AZ] at hb2 ⊢
      exact Run.fin Bf rfl (fun _ _ h=>h) (AM.le_refl _) ⟨rfl,hb2⟩
   · have hbc:Mc (.mk of nf uf nsf ksf alf)=false:=by show (of==6&&_)=false;rw [C4 h6];rfl
     rw [hbc,if_neg (by decide)] at hlen ⊢
     (repeat' (first|refine Run.ct rfl ?_|((first|refine Run.reg mixed ?_|refine Run.AJ ?_|(refine AG.mk rfl (hf4 σ0 σ _ hH hb0 (by (try simp only [AE,AA,AH] at hlen ⊢);omega)) ?_;rintro _ σ1 ⟨rfl,hb1⟩)|refine AG.det (hlv) ?_|(refine AP rfl (fun h=>?_) (fun h=>?_)<;>try (cases h;done)))<;>try simp -implicitDefEqProofs only [A4,ltI,hlt,hsl,Int.le_refl,if_true,OY,Cq,B3,AE,AH,C4 h6,go_sem])|(refine ⟨fun h=>?_,fun h=>?_⟩<;>first|(cases h;done)|try simp only [h])|fail))
     (repeat' (first|refine Run.ct rfl ?_|((first|refine Run.reg mixed ?_|refine Run.AJ ?_|(refine AG.mk rfl (hli σ0 σ1 _ hH hb1 (by (try simp only [AE,AA,AH] at hlen ⊢);omega)) ?_;rintro _ σ2 ⟨rfl,hb2⟩)|(refine AP rfl (fun h=>?_) (fun h=>?_)<;>try (cases h;done)))<;>try simp -implicitDefEqProofs only [A4,ltI,hlt,hsl,Int.le_refl,if_true,OY,Cq,B3,AE,AH,C4 h6,go_sem])|(refine ⟨fun h=>?_,fun h=>?_⟩<;>first|(cases h;done)|try simp only [h])|fail))
     try simp only [AT,A0,A3,AZ] at hb2 ⊢
     exact Run.fin Bf rfl (fun _ _ h=>h) (AM.le_refl _) ⟨rfl,hb2⟩
 have hn':=hn
 simp only [GU,AN] at hn'
 obtain ⟨⟨⟨⟨hnm,hnu⟩,hns⟩,has⟩,hnk⟩:=hn'
 have hop:=lP hnk
 have hpo:sR o:=by unfold sR;unfold lN at ho;omega
 have hl:=sT hn hpo hko
 simp only [exA,Ex.A1,AF,AI] at hlv hl ⊢
 generalize lvl (.mk o n u ns ks al)=lv at hlv hlt
 generalize Az (.mk o n u ns ks al)=txt at hl hlen ⊢
 simp only [lN,not_or] at ho
 obtain ⟨h1,h2,h3,h4,h5,h6⟩:=ho
 (repeat' (first|refine Run.ct rfl ?_|((first|refine Run.reg mixed ?_|refine Run.AJ ?_|(refine AG.mk rfl (hl σ0 σ _ hH hb0 (by (try simp only [AE,AA,AH] at hlen ⊢);omega)) ?_;rintro _ σ1 ⟨rfl,hb1⟩)|refine AG.det (hlv) ?_|(refine AP rfl (fun h=>?_) (fun h=>?_)<;>try (cases h;done)))<;>try simp -implicitDefEqProofs only [A4,ltI,hlt,C4 h1,C4 h2,C4 h3,C4 h4,C4 h5,C4 h6,C4 h12,C4 h13,go_sem])|(refine ⟨fun h=>?_,fun h=>?_⟩<;>first|(cases h;done)|try simp only [h])|fail))
 try simp only [AT,A0,A3,AZ] at hb1 ⊢
 exact Run.fin Bf rfl (fun _ _ h=>h) (AM.le_refl _) ⟨rfl,hb1⟩
theorem nE {i:Nat} {o:Int} {n:Str} {u:Int} {ns:List Str} {ks:List Ex} {al:List Al} (hn:GU o n u ns ks.length al=true)
 (hk:∀x∈ks,∀lev,EC i x lev)
 (ha:∀x∈al,∀j,WX (fun σ=>σ.blk j=some [.gp i 0]) 143 ([]++[alA x]++[.gp j 0]) i (Mr x)) (lev:Nat):EC i (.mk o n u ns ks al) lev:=by
 by_cases hlv0:lvl (.mk o n u ns ks al) < lev
 · have hpa:=Ou (cP (aD hn hk ha 0 (by omega)))
   intro σ0 σ s hH hb0 hlen
   rw [pl,if_pos hlv0] at hlen ⊢
   have hlv:=eY (.mk o n u ns ks al) σ
   have hlt:decide (lvl (.mk o n u ns ks al) < lev)=true:=decide_eq_true hlv0
   refine Jv (by simp) ?_
   rw [Ha]
   simp only [exA,Ex.A1,AF,AI] at hlv hpa ⊢
   generalize lvl (.mk o n u ns ks al)=lv at hlv hlt
   generalize JT (Az (.mk o n u ns ks al))=txt at hpa hlen ⊢
   (repeat' (first|refine Run.ct rfl ?_|((first|refine Run.reg mixed ?_|refine Run.AJ ?_|(refine AG.mk rfl (hpa σ0 σ _ hH hb0 (by (try simp only [AE,AA,AH] at hlen ⊢);omega)) ?_;rintro _ σ1 ⟨rfl,hb1⟩)|refine AG.det (hlv) ?_|(refine AP rfl (fun h=>?_) (fun h=>?_)<;>try (cases h;done)))<;>try simp -implicitDefEqProofs only [ltI,hlt,go_sem])|(refine ⟨fun h=>?_,fun h=>?_⟩<;>first|(cases h;done)|try simp only [h])|fail))
   exact Run.Fe Bf (AM.le_refl _) ⟨rfl,hb1⟩
 · exact aD hn hk ha lev hlv0
mutual
theorem bP (i:Nat):∀(e:Ex),e.nb→∀lev,EC i e lev
 | .mk o n u ns ks al,h,lev=>by
  rw [Ex.nb] at h
  exact nE h.1 (eD i ks h.2.1) (kU i al h.2.2) lev
theorem eD (i:Nat):∀(l:List Ex),Ex.nbs l→∀x∈l,∀lev,EC i x lev
 |[],_,x,hx,_=>by cases hx
 |e::l,h,x,hx,lev=>by
  rw [Ex.nbs] at h
  rcases CN.1 hx with hxe|hx
  · rw [hxe];exact bP i e h.1 lev
  · exact eD i l h.2 x hx lev
theorem kU (i:Nat):∀(l:List Al),Al.nbs l→∀x∈l,∀j,WX (fun σ=>σ.blk j=some [.gp i 0]) 143 ([]++[alA x]++[.gp j 0]) i (Mr x)
 |[],_,x,hx,_=>by cases hx
 | .mk c vs b::l,h,x,hx,j=>by
  rw [Al.nbs,Al.nb] at h
  rcases CN.1 hx with hxe|hx
  · rw [hxe];exact yP j (cP (bP i b h.1 0))
  · exact kU i l h.2 x hx j
end
end Go.Ab
namespace Go.Ab
theorem Hs {s:Str} (h:DY s=true):s.length≤24:=by
 obtain ⟨b,r,rfl,_,_,h3,h4⟩:=YP h
 first|exact h3|exact h4|omega
theorem On {s:Str} (h:upperB s=true):s.length≤24:=by
 obtain ⟨b,r,rfl,_,_,h4⟩:=Vz h
 exact h4
theorem Ut {s:Str} (h:GM s=true):(shown s).length≤24:=by
 rw [shown]
 split
 · simp
 · rename_i hs
   simp only [GM,BT,beq_iff_eq] at h
   exact Hs (h.resolve_left hs)
def JL (l:List Str):Nat:=Dw (fun x=>x.length+3) l
theorem Ga (x:Str) (l:List Str):JL (x::l)=x.length+3+JL l:=by simp [JL,Dw]
theorem lD (sep:Str) (hs:sep.length≤3):∀l:List Str,(Lib.joinTail sep l).length≤JL l
 |[]=>by simp [Lib.joinTail,JL,Dw]
 |x::l=>by
  have:=lD sep hs l
  rw [Ga]
  simp only [Lib.joinTail,AF,Ce,AA] at this ⊢
  omega
theorem Sj {sep:Str} (hs:sep.length≤3) (l:List Str):(Lib.join l sep).length≤JL l:=by
 cases l with
 |nil=>simp [Lib.join_nil]
 |cons x l=>
  rw [Lib.join_cons,Ga,AA]
  have:=lD sep hs l
  omega
theorem Om (l:List Str):(Im l).length≤2+JL l:=by
 rw [Im]
 split
 · simp
 · have:=Sj (sep:=[44,32]) (by decide) l
   simp only [JT,cms,AE,AA,AH];omega
theorem SF (l:List Str):(Il l).length≤2+JL l:=by
 have:=Sj (sep:=[44,32]) (by decide) l
 simp only [Il,JT,cms,AE,AA,AH];omega
theorem Zn {l:List Str} {N:Nat} (h:∀x∈l,x.length≤N):JL l≤l.length * (N+3):=by
 induction l with
 |nil=>simp [JL,Dw]
 |cons x l ih=>
  rw [Ga,AE,L1]
  have h1:=h x (Ae ..)
  have h2:=ih (fun y hy=>h y (Ah _ hy))
  omega
theorem yA {α:Type} (f:α→Str) (μ:α→Nat) (l:List α) (h:∀x∈l,(f x).length+3≤μ x):JL (l.map f)≤Dw μ l:=by
 induction l with
 |nil=>simp [JL,Dw]
 |cons x l ih=>
  rw [AF,Ga]
  have h1:=h x (Ae ..)
  have h2:=ih (fun y hy=>h y (Ah _ hy))
  simp only [Dw,AF,List.sum_cons] at h2 ⊢
  omega
theorem tN {α:Type} (c:Nat) (μ:α→Nat) (l:List α):Dw (fun x=>c * μ x) l=c * Dw μ l:=by
 induction l with
 |nil=>simp [Dw]
 |cons x l ih=>simp only [Dw,AF,List.sum_cons,Nat.mul_add] at ih ⊢;omega
theorem aI:∀l:List Str,JL l.dropLast+(l.getLastD []).length≤JL l
 |[]=>by simp [JL,Dw]
 |[x]=>by simp [JL,Dw]
 |x::y::l=>by
  have:=aI (y::l)
  rw [List.dropLast_cons_cons,Ga,Ga]
  have e:(x::y::l).getLastD []=(y::l).getLastD []:=by simp
  rw [e];omega
theorem tE {k:Int} {n:Str} {q:Nat} (h:Co k n q=true):n.length≤24:=by
 unfold Co at h
 repeat' (split at h)
 all_goals simp only [AN,beq_iff_eq,AU] at h
 all_goals first|exact Hs h.1|exact On h.1|(have:=h.1;subst this;simp)|(have:=h.1.1;subst this;simp)
theorem rK {k:Int} {n:Str} (hn:n.length≤24) (ts:List Str):(tyN k n ts).length≤40+JL ts:=by
 have h1:=Om ts
 have h2:=SF ts.dropLast
 have h3:=aI ts
 unfold tyN
 repeat' split
 all_goals simp only [AA,AE,AH]
 all_goals omega
theorem eU:∀(d:Nat) (t:TE),Bl d t=true→(Cr t).length+3≤60 * t.size
 |0,t,h=>by simp [Bl] at h
 |d+1,.mk k n l,h=>by
  rw [Bl,AN,A6] at h
  rw [Cr,Ph,TE.size,PR]
  have h1:=rK (k:=k) (tE h.1) (l.map Cr)
  have h2:=yA Cr (fun t=>60 * t.size) l (fun x hx=>eU d x (h.2 x hx))
  rw [tN] at h2
  omega
theorem v8 {o:Int} {n:Str} (h:nmB o n=true):n.length≤24∧(shown n).length≤24:=by
 unfold nmB at h
 have hs:n.length≤24→(shown n).length≤24:=fun h=>by rw [shown];split<;>simp_all
 repeat' (split at h)
 · exact ⟨Hs h,hs (Hs h)⟩
 · exact ⟨On h,hs (On h)⟩
 · refine ⟨?_,Ut h⟩
   simp only [GM,BT,beq_iff_eq] at h
   rcases h with rfl|h
   · simp
   · exact Hs h
 · simp only [beq_iff_eq] at h;subst h;exact ⟨by simp,by decide⟩
theorem wG {o:Int} {ns:List Str} (h:nsB o ns=true):JL (ns.map shown)≤162∧JL ns≤162:=by
 have key:∀m:List Str,m.length≤6→(∀x∈m,x.length≤24)→JL m≤162:=fun m h1 h2=>by
  have:=Zn h2
  have:m.length * 27≤6 * 27:=Ak _ h1
  omega
 have hb:∀s:Str,GM s=true→s.length≤24:=fun s h=>by
  simp only [GM,BT,beq_iff_eq] at h
  rcases h with rfl|h
  · simp
  · exact Hs h
 have hnb:∀s:Str,DY s=true→GM s=true:=fun s h=>by simp [GM,h]
 unfold nsB at h
 split at h
 · simp only [AN,decide_eq_true_eq,A6] at h
   refine ⟨key _ (by simpa using h.1.2) (fun x hx=>?_),key _ h.1.2 (fun x hx=>hb x (h.2 x hx))⟩
   obtain ⟨y,hy,rfl⟩:=LY.1 hx
   exact Ut (h.2 y hy)
 · split at h
   · simp only [AN,decide_eq_true_eq,A6] at h
     refine ⟨key _ (by simpa using h.1) (fun x hx=>?_),key _ h.1 (fun x hx=>Hs (h.2 x hx))⟩
     obtain ⟨y,hy,rfl⟩:=LY.1 hx
     exact Ut (hnb y (h.2 y hy))
   · rw [decide_eq_true_eq,XU] at h
     subst h;simp [JL,Dw]
theorem rG {c:Str} {vs:List Str} {b:Ex} (h:Mb (.mk c vs b)=true):(Mr (.mk c vs b)).length≤200+(Az b).length:=by
 simp only [Mb,AN,decide_eq_true_eq,A6] at h
 rw [Mr,alT]
 have h1:=On h.1.1
 have h2:=Om (vs.map shown)
 have h3:JL (vs.map shown)≤(vs.map shown).length * 27:=Zn (fun x hx=>by obtain ⟨y,hy,rfl⟩:=LY.1 hx;exact Ut (h.2 y hy))
 have h4:(vs.map shown).length * 27≤6 * 27:=Ak _ (by simpa using h.1.2)
 simp only [AA,AE,AH]
 omega
theorem vC (l:List Str):(at0 l 0).length+JL l.tail≤JL l:=by
 cases l with
 |nil=>simp [at0,JL,Dw]
 |cons x l=>
  rw [Ga]
  show x.length+JL l≤_
  omega
theorem eR (l:List Str):(at0 l 0).length+(at0 l 1).length+(at0 l 2).length≤JL l:=by
 match l with
 |[]=>simp [at0,JL,Dw]
 |[x]=>simp [at0,JL,Dw]
 |[x,y]=>
  rw [Ga,Ga]
  show x.length+y.length+0≤_
  omega
 |x::y::z::l=>
  rw [Ga,Ga,Ga]
  show x.length+y.length+z.length≤_
  omega
theorem cE (d:Nat) (k:Ex) (t:Str):(pl d k t).length≤2+t.length:=by
 rw [pl];split
 · simp only [JT,AE,AA,AH];omega
 · omega
theorem eT (t:Str):(JT t).length≤2+t.length:=by simp only [JT,AE,AA,AH];omega
theorem rH (ks:List Ex) (ts:List Str):(yT ks ts).length≤8+JL ts:=by
 unfold yT
 have h1:=SF ts.tail
 have h2:=vC ts
 split
 · omega
 · have h3:=eT (at0 ts 0)
   rename_i k _
   have h4:=cE 4 k (at0 ts 0)
   rw [AA]
   split<;>omega
theorem rJ (u:Int):(opT u).length≤10:=by
 unfold opT VB
 split<;>decide
theorem rI (u:Int) (ks:List Ex) (ts:List Str):(yX u ks ts).length≤20+JL ts:=by
 unfold yX
 have h2:=eR ts
 have h3:=rJ u
 split
 · rename_i a b
   have h4:=cE (if Eb u=1 then 2 else Eb u) a (at0 ts 0)
   have h5:=cE (if Eb u=1 then 2 else Eb u+1) b (at0 ts 1)
   simp only [AA,AE]
   omega
 · simp
theorem vF (u:Int):(prT u).length≤10:=by
 unfold prT
 repeat' split
 all_goals decide
theorem vE {o u:Int} (h:nuB o u=true):(Lib.itoa u).length≤21:=by
 refine Lib.itoa_length_le u ?_ ?_
 all_goals
  unfold nuB at h
  repeat' (split at h)
  all_goals simp only [AN,decide_eq_true_eq,beq_iff_eq] at h
  all_goals omega
theorem vD {o:Int} {n:Str} {u:Int} {ns:List Str} (hn:nmB o n=true) (hu:nuB o u=true) (hs:nsB o ns=true) (ks:List Ex) (ts as':List Str):(Pb o n u ns ks ts as').length≤250+JL ts+JL as':=by
 obtain ⟨h1,h2⟩:=v8 hn
 obtain ⟨h3,h4⟩:=wG hs
 have h5:=Om ts
 have h6:=SF ts
 have h7:=eR ts
 have h8:=rH ks ts
 have h9:=rI u ks ts
 have h10:=vF u
 have h11:=vE hu
 have h12:=eT (Lib.itoa u)
 have h13:=Om (ns.map shown)
 have h14:=SF ns
 have h15:=Sj (sep:=[32,124,32]) (by decide) as'
 unfold Pb
 by_cases h:o=7
 · rw [if_pos h];try simp only [AA,AE,AH]
   omega
 rw [if_neg h];clear h
 by_cases h:o=8
 · rw [if_pos h];try simp only [AA,AE,AH]
   omega
 rw [if_neg h];clear h
 by_cases h:o=9
 · rw [if_pos h];try simp only [AA,AE,AH]
   omega
 rw [if_neg h];clear h
 by_cases h:o=10
 · rw [if_pos h];try simp only [AA,AE,AH]
   omega
 rw [if_neg h];clear h
 by_cases h:o=11
 · rw [if_pos h];try simp only [AA,AE,AH]
   omega
 rw [if_neg h];clear h
 by_cases h:o=17
 · rw [if_pos h];try simp only [AA,AE,AH]
   omega
 rw [if_neg h];clear h
 by_cases h:o=13
 · rw [if_pos h];try simp only [AA,AE,AH]
   omega
 rw [if_neg h];clear h
 by_cases h:o=12
 · rw [if_pos h];try simp only [AA,AE,AH]
   omega
 rw [if_neg h];clear h
 by_cases h:o=1
 · rw [if_pos h];try simp only [AA,AE,AH]
   omega
 rw [if_neg h];clear h
 by_cases h:o=2
 · rw [if_pos h];split<;>(simp only [AE,AH];omega)
 rw [if_neg h];clear h
 by_cases h:o=3
 · rw [if_pos h];try simp only [AA,AE,AH]
   omega
 rw [if_neg h];clear h
 by_cases h:o=5
 · rw [if_pos h];try simp only [AA,AE,AH]
   omega
 rw [if_neg h];clear h
 by_cases h:o=14
 · rw [if_pos h];try simp only [AA,AE,AH]
   omega
 rw [if_neg h];clear h
 by_cases h:o=16
 · rw [if_pos h];try simp only [AA,AE,AH]
   omega
 rw [if_neg h];clear h
 by_cases h:o=15
 · rw [if_pos h];try simp only [AA,AE,AH]
   omega
 rw [if_neg h];clear h
 rw [AA];omega
mutual
theorem cD:∀(e:Ex),e.nb→(Az e).length+250≤800 * e.size
 | .mk o n u ns ks al,h=>by
  rw [Ex.nb] at h
  have hn:=h.1
  simp only [GU,AN] at hn
  obtain ⟨⟨⟨⟨hnm,hnu⟩,hns⟩,has⟩,hnk⟩:=hn
  rw [Az,Ex.size]
  have h1:=vD hnm hnu hns ks (WN ks) (Jm al)
  have h2:=eS ks h.2.1
  have h3:=eQ al h.2.2 (hP has)
  omega
theorem eS:∀(l:List Ex),Ex.nbs l→JL (WN l)≤800 * Ex.At l
 |[],_=>by simp [WN,JL,Dw]
 |e::l,h=>by
  rw [Ex.nbs] at h
  have h1:=cD e h.1
  have h2:=eS l h.2
  rw [WN,Ga,Ex.At]
  omega
theorem eQ:∀(l:List Al),Al.nbs l→(∀a∈l,Mb a=true)→JL (Jm l)≤800 * Al.At l
 |[],_,_=>by simp [Jm,JL,Dw]
 | .mk c vs b::l,h,ha=>by
  rw [Al.nbs,Al.nb] at h
  have h1:=cD b h.1
  have h2:=eQ l h.2 (fun a hx=>ha a (Ah _ hx))
  have h3:=rG (ha _ (Ae ..))
  rw [Jm,Ga,Al.At,Al.size]
  omega
end
theorem Si {α:Type} {f:Nat→α→Option Nat} {μ:α→Nat}:∀(l:List α) (q r:Nat),(∀x∈l,∀a b,f a x=some b→μ x+b≤a)→l.foldlM f q=some r→Dw μ l+r≤q
 |[],q,r,_,h=>by
  simp only [List.foldlM_nil] at h
  cases h
  simp [Dw]
 |y::l,q,r,hf,h=>by
  rw [List.foldlM_cons,AS,AD] at h
  obtain ⟨b,hb,h⟩:=h
  have h1:=hf y (Ae ..) q b hb
  have h2:=Si l b r (fun x hx=>hf x (Ah _ hx)) h
  simp only [Dw,AF,List.sum_cons] at h2 ⊢
  omega
theorem aH:∀l:List Ex,Ex.At l=Dw Ex.size l
 |[]=>rfl
 |e::l=>by rw [Ex.At,aH l];simp [Dw]
theorem aG:∀l:List Al,Al.At l=Dw Al.size l
 |[]=>rfl
 |e::l=>by rw [Al.At,aG l];simp [Dw]
theorem kK:∀(d q:Nat) (e:Ex) (r:Nat),vEx d q e=some r→e.size+r≤q
 |0,q,.mk ..,r,h=>by simp [vEx] at h
 |d+1,0,.mk ..,r,h=>by cases h
 |d+1,q+1,.mk o n u ns ks al,r,h=>by
  simp only [vEx] at h
  split at h
  · rw [AD] at h
    obtain ⟨c,hc,h⟩:=h
    have h1:=Si (μ:=Ex.size) ks q c (fun x _ a b hab=>kK d a x b hab) hc
    have h2:=Si (μ:=Al.size) al c r (fun x _ a b hab=>by
     obtain ⟨cc,vs,bd⟩:=x
     rw [Al.size]
     exact kK d a bd b hab) h
    rw [Ex.size,aH,aG]
    omega
  · cases h
theorem dI {q r:Nat} {f:FE} (h:PX q f=some r):Mw f=true∧f.body.nb∧f.body.size+r≤q:=by
 unfold PX at h
 split at h
 · rename_i hh;exact ⟨hh,dH _ _ _ _ h,kK _ _ _ _ h⟩
 · cases h
theorem W1 {p:Pg} (h:DA p=true):(p.data.length≤12∧∀d∈p.data,Ge d=true)∧p.Rf.length≤24∧∀f∈p.Rf,Mw f=true∧f.body.nb∧f.body.size≤600:=by
 simp only [DA,AN,decide_eq_true_eq,A6] at h
 obtain ⟨⟨⟨h1,h2⟩,h3⟩,h4⟩:=h
 obtain ⟨r,hr⟩:=W4.1 h4
 have hs:=Si (μ:=fun f=>f.body.size) p.Rf 600 r (fun x _ a b hab=>(dI hab).2.2) hr
 have ha:=O8 (Q:=fun f=>Mw f=true∧f.body.nb) p.Rf 600 r (fun x _ a b hab=>⟨(dI hab).1,(dI hab).2.1⟩) hr
 refine ⟨⟨h1,h3⟩,h2,fun f hf=>⟨(ha f hf).1,(ha f hf).2,?_⟩⟩
 have:=VL (μ:=fun f:FE=>f.body.size) hf
 omega
theorem Vc {α:Type} (f:α→Str) (N:Nat):∀l:List α,(∀x∈l,(f x).length≤N)→(l.map f).flatten.length≤l.length * N
 |[],_=>by simp
 |x::l,h=>by
  have h1:=h x (Ae ..)
  have h2:=Vc f N l (fun y hy=>h y (Ah _ hy))
  rw [AF,Ce,AA,AE,L1]
  omega
theorem n9 {c:CE} (h:Rb c=true) (hs:∀t∈c.args,t.size≤100000):(fmtC c).length≤40000000:=by
 simp only [Rb,AN,decide_eq_true_eq,A6] at h
 rw [fmtC,AA]
 have h1:=On h.1.1
 have h2:=Om (c.args.map Cr)
 have h3:JL (c.args.map Cr)≤(c.args.map Cr).length * (6000000+3):=Zn (fun x hx=>by
  obtain ⟨t,ht,rfl⟩:=LY.1 hx
  have:=eU 40 t (h.2 t ht)
  have:=hs t ht
  omega)
 have h4:(c.args.map Cr).length * (6000000+3)≤6 * (6000000+3):=Ak _ (by simpa using h.1.2)
 omega
theorem jG {d:DE} (h:Ge d=true) (hs:∀c∈d.cons,∀t∈c.args,t.size≤100000):(UB d).length≤400000000:=by
 simp only [Ge,AN,decide_eq_true_eq,A6] at h
 obtain ⟨⟨⟨⟨⟨h1,h2⟩,h3⟩,h4⟩,h5⟩,h6⟩:=h
 rw [UB]
 have g1:=On h1
 have g2:=Om d.vars
 have g3:JL d.vars≤d.vars.length * 27:=Zn (fun x hx=>Hs (h3 x hx))
 have g4:d.vars.length * 27≤6 * 27:=Ak _ h2
 have g5:=Sj (sep:=[32,124,32]) (by decide) (d.cons.map fmtC)
 have g6:JL (d.cons.map fmtC)≤(d.cons.map fmtC).length * (40000000+3):=Zn (fun x hx=>by
  obtain ⟨t,ht,rfl⟩:=LY.1 hx
  exact n9 (h6 t ht) (hs t ht))
 have g7:(d.cons.map fmtC).length * (40000000+3)≤8 * (40000000+3):=Ak _ (by simpa using h5)
 simp only [AA,AE,AH]
 omega
theorem oA {f:FE} (h:Mw f=true) (hb:f.body.nb) (hs:f.body.size≤600):(V5 f).length≤1000000:=by
 simp only [Mw,AN,decide_eq_true_eq,A6] at h
 rw [V5]
 have g1:=Hs h.1.1
 have g2:=SF f.params
 have g3:JL f.params≤f.params.length * 27:=Zn (fun x hx=>Hs (h.2 x hx))
 have g4:f.params.length * 27≤6 * 27:=Ak _ h.1.2
 have g5:=cD f.body hb
 simp only [AA,AE,AH]
 omega
theorem uX {p:Pg} (h:DA p=true) (hs:∀d∈p.data,∀c∈d.cons,∀t∈c.args,t.size≤100000):(Wa p).length≤10000000000:=by
 obtain ⟨⟨h1,h2⟩,h3,h4⟩:=W1 h
 rw [Wa,AA]
 have g1:=Vc UB 400000000 p.data (fun d hd=>jG (h2 d hd) (hs d hd))
 have g2:=Vc V5 1000000 p.Rf (fun f hf=>oA (h4 f hf).1 (h4 f hf).2.1 (h4 f hf).2.2)
 have g3:p.data.length * 400000000≤12 * 400000000:=Ak _ h1
 have g4:p.Rf.length * 1000000≤24 * 1000000:=Ak _ h3
 omega
end Go.Ab
