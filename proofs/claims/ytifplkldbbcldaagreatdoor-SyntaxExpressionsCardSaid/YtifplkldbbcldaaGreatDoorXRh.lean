/- The printer: expressions. Lengths of texts. Conditions: none. -/
import Derived.Lib.ItoaLen
import Derived.Test.YtifplkldbbcldaaGreatDoorXRf
set_option linter.unusedSimpArgs false
set_option linter.unusedVariables false
set_option maxRecDepth 4000
set_option maxHeartbeats 8000000
open List renaming all_eq_true→A7,mem_cons→CT,mem_map→Im,take_of_length_le→A8,map_cons→AF,map_nil→AI,length_cons→AB,length_append→AA,length_nil→AE,append_assoc→AT,cons_append→A0,nil_append→A3,append_nil→A1,mem_cons_of_mem→Am,mem_cons_self→Ah,getElem?_cons_zero→A5,length_map→AG,flatten_cons→Cl,length_eq_zero_iff→Xn
open Int renaming reduceBEq→AS,toNat_zero→Of
open Bool renaming and_eq_true→AN,or_eq_true→BV,false_eq_true→AW
open Option renaming bind_some→BY,bind_eq_bind→AU,bind_eq_some_iff→AD,isSome_iff_exists→XC
open Nat renaming succ_mul→La,mul_le_mul_right→Ao
namespace Go.Ab
open Go.Proofs
theorem ltI (a b:Nat):decide ((a:Int) < (b:Int))=decide (a < b):=decide_eq_decide.2 (by omega)
theorem eqS (n:Nat):(((n+1:Nat):Int)==0)=false:=Bq (by omega)
theorem vR (f:Ex) (l:List Ex):X5 (List.map Ex.enc (f::l)) (some (.d (.int .i64 1))) none none 6=some (.d (.sl (l.map Ex.enc))):=by
 simp [X5,Vp,Uc]
 refine ⟨?_,?_⟩
 · rw [eU,A7]
   intro r hr
   rw [beq_iff_eq]
   rcases CT.1 hr with rfl|hr
   · obtain ⟨o,n,u,ns,ks,al⟩:=f;rfl
   · obtain ⟨x,_,rfl⟩:=Im.1 hr
     obtain ⟨o,n,u,ns,ks,al⟩:=x;rfl
 · rw [A8 (by simp)]
set_option maxHeartbeats 8000000 in
theorem bT {i:Nat} {o:Int} {n:Str} {u:Int} {ns:List Str} {ks:List Ex} {al:List Al} (hn:Fi o n u ns ks.length al=true)
 (hk:∀x∈ks,∀lev,EC i x lev)
 (ha:∀x∈al,∀j,WX (fun σ=>σ.blk j=some [.gp i 0]) 143 ([]++[alA x]++[.gp j 0]) i (E0 x)) (lev:Nat) (hlv0:¬lvl (.mk o n u ns ks al) < lev):EC i (.mk o n u ns ks al) lev:=by
 have hko:∀x∈ks,WC 139 [.gp i 0,exA x] i (Af x):=fun x hx=>eF (hk x hx 0)
 intro σ0 σ s hH hb0 hlen
 rw [pl,if_neg hlv0] at hlen ⊢
 have hlv:=gU (.mk o n u ns ks al) σ
 have hlt:decide (lvl (.mk o n u ns ks al) < lev)=false:=decide_eq_false hlv0
 refine KD (by simp) ?_
 rw [Hg]
 by_cases ho:nX o
 · have hl:=xY hn ho hko ha
   simp only [exA,Ex.A2,AF,AI] at hlv hl ⊢
   generalize lvl (.mk o n u ns ks al)=lv at hlv hlt
   generalize Af (.mk o n u ns ks al)=txt at hl hlen ⊢
   rcases ho with rfl|rfl|rfl|rfl|rfl|rfl
   all_goals (repeat' (first|refine Run.ct rfl ?_|((first|refine Run.reg mixed ?_|refine Run.AJ ?_|(refine AH.mk rfl (hl σ0 σ _ hH hb0 (by (try simp only [AB,AA,AE] at hlen ⊢);omega)) ?_;rintro _ σ1 ⟨rfl,hb1⟩)|refine AH.det (hlv) ?_|(refine AQ rfl (fun h=>?_) (fun h=>?_)<;>try (cases h;done)))<;>try simp -implicitDefEqProofs only [AS,ltI,hlt,go_sem])|(refine ⟨fun h=>?_,fun h=>?_⟩<;>first|(cases h;done)|try simp only [h])|fail))
   all_goals try simp only [AT,A0,A3,A1] at hb1 ⊢
   all_goals exact Run.fin Bi rfl (fun _ _ h=>h) (AM.le_refl _) ⟨rfl,hb1⟩
 by_cases h13:o=13
 · subst h13
   have hn':=hn
   simp only [Fi,AN] at hn'
   obtain ⟨⟨⟨⟨hnm,hnu⟩,hns⟩,has⟩,hnk⟩:=hn'
   simp [nuB] at hnu
   obtain ⟨a,b,rfl⟩:=OZ (by simpa [nkB] using hnk)
   have hka:=hk a (by simp) (plL u)
   have hkb:=hk b (by simp) (plR u)
   have hpl:=WN u σ
   have e:Af (.mk 13 n u ns [a,b] al)=pl (plL u) a (Af a)++([32]++(opT u++([32]++pl (plR u) b (Af b)))):=by
    rw [Af,H3];rfl
   rw [e] at hlen ⊢
   clear e
   unfold EC at hka hkb
   generalize pl (plL u) a (Af a)=ta at *
   generalize pl (plR u) b (Af b)=tb at *
   obtain ⟨oa,na,ua,nsa,ksa,ala⟩:=a
   obtain ⟨ob,nb,ub,nsb,ksb,alb⟩:=b
   simp only [exA,Ex.A2,AF,AI] at hka hkb hlv ⊢
   generalize lvl _=lv at hlv hlt
   have hlen2:=hlen
   simp only [AB,AA,AE] at hlen2
   have ha1:=DB (a:=[32]) (b:=opT u) (by simp only [AB,AE];omega)
   have ha2:=DB (a:=[32]++opT u) (b:=[32]) (by simp only [AA,AB,AE];omega)
   simp only [A0,A3] at ha1 ha2
   have hot:=fun σ=>Qt u σ ⟨hnu.1,hnu.2⟩
   (repeat' (first|refine Run.ct rfl ?_|((first|refine Run.reg mixed ?_|refine Run.AJ ?_|(refine AH.mk rfl (hka σ0 σ _ hH hb0 (by (try simp only [AB,AA,AE] at hlen ⊢);omega)) ?_;rintro _ σ1 ⟨rfl,hb1⟩)|refine AH.det (hlv) ?_|refine AH.det (hpl) ?_|(refine AQ rfl (fun h=>?_) (fun h=>?_)<;>try (cases h;done)))<;>try simp -implicitDefEqProofs only [AS,ltI,hlt,ha1,ha2,go_sem])|(refine ⟨fun h=>?_,fun h=>?_⟩<;>first|(cases h;done)|try simp only [h])|fail))
   (repeat' (first|refine Run.ct rfl ?_|((first|refine Run.reg mixed ?_|refine Run.AJ ?_|(refine AH.mk rfl (A6 _ hb1 (by (try simp only [AB,AA,AE] at hlen ⊢);omega)) ?_;rintro _ σ2 ⟨rfl,hb2⟩)|refine AH.det (hot _) ?_|(refine AQ rfl (fun h=>?_) (fun h=>?_)<;>try (cases h;done)))<;>try simp -implicitDefEqProofs only [AS,ltI,hlt,ha1,ha2,go_sem])|(refine ⟨fun h=>?_,fun h=>?_⟩<;>first|(cases h;done)|try simp only [h])|fail))
   (repeat' (first|refine Run.ct rfl ?_|((first|refine Run.reg mixed ?_|refine Run.AJ ?_|(refine AH.mk rfl (hkb σ0 σ2 _ hH hb2 (by (try simp only [AB,AA,AE] at hlen ⊢);omega)) ?_;rintro _ σ3 ⟨rfl,hb3⟩)|(refine AQ rfl (fun h=>?_) (fun h=>?_)<;>try (cases h;done)))<;>try simp -implicitDefEqProofs only [AS,ltI,hlt,ha1,ha2,go_sem])|(refine ⟨fun h=>?_,fun h=>?_⟩<;>first|(cases h;done)|try simp only [h])|fail))
   try simp only [AT,A0,A3,A1] at hb3 ⊢
   exact Run.fin Bi rfl (fun _ _ h=>h) (AM.le_refl _) ⟨rfl,hb3⟩
 by_cases h12:o=12
 · subst h12
   have hn':=hn
   simp only [Fi,AN] at hn'
   obtain ⟨⟨⟨⟨hnm,hnu⟩,hns⟩,has⟩,hnk⟩:=hn'
   cases ks with
   |nil=>simp [nkB] at hnk
   |cons f l=>
   have hli:=nW (i:=i) (ks:=l) (fun x hx=>hko x (Am _ hx))
   have hf4:=hk f (Ah ..) 4
   have hfp:=PL (hko f (Ah ..))
   have e:Af (.mk 12 n u ns (f::l) al)=(if H6 f then Fk (Af f) else pl 4 f (Af f))++FC (l.map Af):=by
    rw [Af,H3];rfl
   rw [e] at hlen ⊢
   clear e
   unfold EC at hf4
   have hsl:X5 (List.map Ex.enc (f::l)) (some (.d (.int .i64 1))) none none 6=some (.d (.sl (l.map Ex.enc))):=vR f l
   generalize hpp:Fk (Af f)=tp at *
   generalize pl 4 f (Af f)=tq at *
   clear hpp
   obtain ⟨of,nf,uf,nsf,ksf,alf⟩:=f
   simp only [exA,Ex.A2,AF,AI] at hf4 hfp hlv hsl ⊢
   generalize lvl _=lv at hlv hlt
   by_cases h6:of=6
   · subst h6
     cases ksf with
     |nil=>
      have hbc:H6 (.mk 6 nf uf nsf [] alf)=true:=rfl
      rw [hbc,if_pos rfl] at hlen ⊢
      simp only [AI] at hf4 hfp hlv hsl ⊢
      (repeat' (first|refine Run.ct rfl ?_|((first|refine Run.reg mixed ?_|refine Run.AJ ?_|(refine AH.mk rfl (hfp σ0 σ _ hH hb0 (by (try simp only [AB,AA,AE] at hlen ⊢);omega)) ?_;rintro _ σ1 ⟨rfl,hb1⟩)|refine AH.det (hlv) ?_|(refine AQ rfl (fun h=>?_) (fun h=>?_)<;>try (cases h;done)))<;>try simp -implicitDefEqProofs only [AS,ltI,hlt,hsl,Int.le_refl,if_true,Of,A5,BY,AB,AE,go_sem])|(refine ⟨fun h=>?_,fun h=>?_⟩<;>first|(cases h;done)|try simp only [h])|fail))
      (repeat' (first|refine Run.ct rfl ?_|((first|refine Run.reg mixed ?_|refine Run.AJ ?_|(refine AH.mk rfl (hli σ0 σ1 _ hH hb1 (by (try simp only [AB,AA,AE] at hlen ⊢);omega)) ?_;rintro _ σ2 ⟨rfl,hb2⟩)|(refine AQ rfl (fun h=>?_) (fun h=>?_)<;>try (cases h;done)))<;>try simp -implicitDefEqProofs only [AS,ltI,hlt,hsl,Int.le_refl,if_true,Of,A5,BY,AB,AE,go_sem])|(refine ⟨fun h=>?_,fun h=>?_⟩<;>first|(cases h;done)|try simp only [h])|fail))
      try simp only [AT,A0,A3,A1] at hb2 ⊢
      exact Run.fin Bi rfl (fun _ _ h=>h) (AM.le_refl _) ⟨rfl,hb2⟩
     |cons k1 l1=>
      have hbc:H6 (.mk 6 nf uf nsf (k1::l1) alf)=false:=rfl
      rw [hbc,if_neg (by decide)] at hlen ⊢
      simp only [AF] at hf4 hfp hlv hsl ⊢
      (repeat' (first|refine Run.ct rfl ?_|((first|refine Run.reg mixed ?_|refine Run.AJ ?_|(refine AH.mk rfl (hf4 σ0 σ _ hH hb0 (by (try simp only [AB,AA,AE] at hlen ⊢);omega)) ?_;rintro _ σ1 ⟨rfl,hb1⟩)|refine AH.det (hlv) ?_|(refine AQ rfl (fun h=>?_) (fun h=>?_)<;>try (cases h;done)))<;>try simp -implicitDefEqProofs only [AS,ltI,hlt,hsl,Int.le_refl,if_true,Of,A5,BY,AB,AE,eqS,AG,go_sem])|(refine ⟨fun h=>?_,fun h=>?_⟩<;>first|(cases h;done)|try simp only [h])|fail))
      (repeat' (first|refine Run.ct rfl ?_|((first|refine Run.reg mixed ?_|refine Run.AJ ?_|(refine AH.mk rfl (hli σ0 σ1 _ hH hb1 (by (try simp only [AB,AA,AE] at hlen ⊢);omega)) ?_;rintro _ σ2 ⟨rfl,hb2⟩)|(refine AQ rfl (fun h=>?_) (fun h=>?_)<;>try (cases h;done)))<;>try simp -implicitDefEqProofs only [AS,ltI,hlt,hsl,Int.le_refl,if_true,Of,A5,BY,AB,AE,eqS,AG,go_sem])|(refine ⟨fun h=>?_,fun h=>?_⟩<;>first|(cases h;done)|try simp only [h])|fail))
      try simp only [AT,A0,A3,A1] at hb2 ⊢
      exact Run.fin Bi rfl (fun _ _ h=>h) (AM.le_refl _) ⟨rfl,hb2⟩
   · have hbc:H6 (.mk of nf uf nsf ksf alf)=false:=by show (of==6&&_)=false;rw [Bq h6];rfl
     rw [hbc,if_neg (by decide)] at hlen ⊢
     (repeat' (first|refine Run.ct rfl ?_|((first|refine Run.reg mixed ?_|refine Run.AJ ?_|(refine AH.mk rfl (hf4 σ0 σ _ hH hb0 (by (try simp only [AB,AA,AE] at hlen ⊢);omega)) ?_;rintro _ σ1 ⟨rfl,hb1⟩)|refine AH.det (hlv) ?_|(refine AQ rfl (fun h=>?_) (fun h=>?_)<;>try (cases h;done)))<;>try simp -implicitDefEqProofs only [AS,ltI,hlt,hsl,Int.le_refl,if_true,Of,A5,BY,AB,AE,Bq h6,go_sem])|(refine ⟨fun h=>?_,fun h=>?_⟩<;>first|(cases h;done)|try simp only [h])|fail))
     (repeat' (first|refine Run.ct rfl ?_|((first|refine Run.reg mixed ?_|refine Run.AJ ?_|(refine AH.mk rfl (hli σ0 σ1 _ hH hb1 (by (try simp only [AB,AA,AE] at hlen ⊢);omega)) ?_;rintro _ σ2 ⟨rfl,hb2⟩)|(refine AQ rfl (fun h=>?_) (fun h=>?_)<;>try (cases h;done)))<;>try simp -implicitDefEqProofs only [AS,ltI,hlt,hsl,Int.le_refl,if_true,Of,A5,BY,AB,AE,Bq h6,go_sem])|(refine ⟨fun h=>?_,fun h=>?_⟩<;>first|(cases h;done)|try simp only [h])|fail))
     try simp only [AT,A0,A3,A1] at hb2 ⊢
     exact Run.fin Bi rfl (fun _ _ h=>h) (AM.le_refl _) ⟨rfl,hb2⟩
 have hn':=hn
 simp only [Fi,AN] at hn'
 obtain ⟨⟨⟨⟨hnm,hnu⟩,hns⟩,has⟩,hnk⟩:=hn'
 have hop:=cB hnk
 have hpo:vC o:=by unfold vC;unfold nX at ho;omega
 have hl:=vE hn hpo hko
 simp only [exA,Ex.A2,AF,AI] at hlv hl ⊢
 generalize lvl (.mk o n u ns ks al)=lv at hlv hlt
 generalize Af (.mk o n u ns ks al)=txt at hl hlen ⊢
 simp only [nX,not_or] at ho
 obtain ⟨h1,h2,h3,h4,h5,h6⟩:=ho
 (repeat' (first|refine Run.ct rfl ?_|((first|refine Run.reg mixed ?_|refine Run.AJ ?_|(refine AH.mk rfl (hl σ0 σ _ hH hb0 (by (try simp only [AB,AA,AE] at hlen ⊢);omega)) ?_;rintro _ σ1 ⟨rfl,hb1⟩)|refine AH.det (hlv) ?_|(refine AQ rfl (fun h=>?_) (fun h=>?_)<;>try (cases h;done)))<;>try simp -implicitDefEqProofs only [AS,ltI,hlt,Bq h1,Bq h2,Bq h3,Bq h4,Bq h5,Bq h6,Bq h12,Bq h13,go_sem])|(refine ⟨fun h=>?_,fun h=>?_⟩<;>first|(cases h;done)|try simp only [h])|fail))
 try simp only [AT,A0,A3,A1] at hb1 ⊢
 exact Run.fin Bi rfl (fun _ _ h=>h) (AM.le_refl _) ⟨rfl,hb1⟩
theorem pI {i:Nat} {o:Int} {n:Str} {u:Int} {ns:List Str} {ks:List Ex} {al:List Al} (hn:Fi o n u ns ks.length al=true)
 (hk:∀x∈ks,∀lev,EC i x lev)
 (ha:∀x∈al,∀j,WX (fun σ=>σ.blk j=some [.gp i 0]) 143 ([]++[alA x]++[.gp j 0]) i (E0 x)) (lev:Nat):EC i (.mk o n u ns ks al) lev:=by
 by_cases hlv0:lvl (.mk o n u ns ks al) < lev
 · have hpa:=PL (eF (bT hn hk ha 0 (by omega)))
   intro σ0 σ s hH hb0 hlen
   rw [pl,if_pos hlv0] at hlen ⊢
   have hlv:=gU (.mk o n u ns ks al) σ
   have hlt:decide (lvl (.mk o n u ns ks al) < lev)=true:=decide_eq_true hlv0
   refine KD (by simp) ?_
   rw [Hg]
   simp only [exA,Ex.A2,AF,AI] at hlv hpa ⊢
   generalize lvl (.mk o n u ns ks al)=lv at hlv hlt
   generalize Fk (Af (.mk o n u ns ks al))=txt at hpa hlen ⊢
   (repeat' (first|refine Run.ct rfl ?_|((first|refine Run.reg mixed ?_|refine Run.AJ ?_|(refine AH.mk rfl (hpa σ0 σ _ hH hb0 (by (try simp only [AB,AA,AE] at hlen ⊢);omega)) ?_;rintro _ σ1 ⟨rfl,hb1⟩)|refine AH.det (hlv) ?_|(refine AQ rfl (fun h=>?_) (fun h=>?_)<;>try (cases h;done)))<;>try simp -implicitDefEqProofs only [ltI,hlt,go_sem])|(refine ⟨fun h=>?_,fun h=>?_⟩<;>first|(cases h;done)|try simp only [h])|fail))
   exact Run.GR Bi (AM.le_refl _) ⟨rfl,hb1⟩
 · exact bT hn hk ha lev hlv0
mutual
theorem X9 (i:Nat):∀(e:Ex),e.nb→∀lev,EC i e lev
 | .mk o n u ns ks al,h,lev=>by
  rw [Ex.nb] at h
  exact pI h.1 (fX i ks h.2.1) (mU i al h.2.2) lev
theorem fX (i:Nat):∀(l:List Ex),Ex.nbs l→∀x∈l,∀lev,EC i x lev
 |[],_,x,hx,_=>by cases hx
 |e::l,h,x,hx,lev=>by
  rw [Ex.nbs] at h
  rcases CT.1 hx with hxe|hx
  · rw [hxe];exact X9 i e h.1 lev
  · exact fX i l h.2 x hx lev
theorem mU (i:Nat):∀(l:List Al),Al.nbs l→∀x∈l,∀j,WX (fun σ=>σ.blk j=some [.gp i 0]) 143 ([]++[alA x]++[.gp j 0]) i (E0 x)
 |[],_,x,hx,_=>by cases hx
 | .mk c vs b::l,h,x,hx,j=>by
  rw [Al.nbs,Al.nb] at h
  rcases CT.1 hx with hxe|hx
  · rw [hxe];exact AAQ j (eF (X9 i b h.1 0))
  · exact mU i l h.2 x hx j
end
end Go.Ab
namespace Go.Ab
theorem IA {s:Str} (h:D5 s=true):s.length≤24:=by
 obtain ⟨b,r,rfl,_,_,h3,h4⟩:=V3 h
 first|exact h3|exact h4|omega
theorem NO {s:Str} (h:upperB s=true):s.length≤24:=by
 obtain ⟨b,r,rfl,_,_,h4⟩:=TP h
 exact h4
theorem S1 {s:Str} (h:GZ s=true):(shown s).length≤24:=by
 rw [shown]
 split
 · simp
 · rename_i hs
   simp only [GZ,BV,beq_iff_eq] at h
   exact IA (h.resolve_left hs)
def JL (l:List Str):Nat:=ED (fun x=>x.length+3) l
theorem Cu (x:Str) (l:List Str):JL (x::l)=x.length+3+JL l:=by simp [JL,ED]
theorem nM (sep:Str) (hs:sep.length≤3):∀l:List Str,(Lib.joinTail sep l).length≤JL l
 |[]=>by simp [Lib.joinTail,JL,ED]
 |x::l=>by
  have:=nM sep hs l
  rw [Cu]
  simp only [Lib.joinTail,AF,Cl,AA] at this ⊢
  omega
theorem Gf {sep:Str} (hs:sep.length≤3) (l:List Str):(Lib.join l sep).length≤JL l:=by
 cases l with
 |nil=>simp [Lib.join_nil]
 |cons x l=>
  rw [Lib.join_cons,Cu,AA]
  have:=nM sep hs l
  omega
theorem PH (l:List Str):(Fw l).length≤2+JL l:=by
 rw [Fw]
 split
 · simp
 · have:=Gf (sep:=[44,32]) (by decide) l
   simp only [Fk,cms,AB,AA,AE];omega
theorem S2 (l:List Str):(FC l).length≤2+JL l:=by
 have:=Gf (sep:=[44,32]) (by decide) l
 simp only [FC,Fk,cms,AB,AA,AE];omega
theorem Xm {l:List Str} {N:Nat} (h:∀x∈l,x.length≤N):JL l≤l.length * (N+3):=by
 induction l with
 |nil=>simp [JL,ED]
 |cons x l ih=>
  rw [Cu,AB,La]
  have h1:=h x (Ah ..)
  have h2:=ih (fun y hy=>h y (Am _ hy))
  omega
theorem AAB {α:Type} (f:α→Str) (μ:α→Nat) (l:List α) (h:∀x∈l,(f x).length+3≤μ x):JL (l.map f)≤ED μ l:=by
 induction l with
 |nil=>simp [JL,ED]
 |cons x l ih=>
  rw [AF,Cu]
  have h1:=h x (Ah ..)
  have h2:=ih (fun y hy=>h y (Am _ hy))
  simp only [ED,AF,List.sum_cons] at h2 ⊢
  omega
theorem vY {α:Type} (c:Nat) (μ:α→Nat) (l:List α):ED (fun x=>c * μ x) l=c * ED μ l:=by
 induction l with
 |nil=>simp [ED]
 |cons x l ih=>simp only [ED,AF,List.sum_cons,Nat.mul_add] at ih ⊢;omega
theorem bZ:∀l:List Str,JL l.dropLast+(l.getLastD []).length≤JL l
 |[]=>by simp [JL,ED]
 |[x]=>by simp [JL,ED]
 |x::y::l=>by
  have:=bZ (y::l)
  rw [List.dropLast_cons_cons,Cu,Cu]
  have e:(x::y::l).getLastD []=(y::l).getLastD []:=by simp
  rw [e];omega
theorem vQ {k:Int} {n:Str} {q:Nat} (h:Cv k n q=true):n.length≤24:=by
 unfold Cv at h
 repeat' (split at h)
 all_goals simp only [AN,beq_iff_eq,AW] at h
 all_goals first|exact IA h.1|exact NO h.1|(have:=h.1;subst this;simp)|(have:=h.1.1;subst this;simp)
theorem tO {k:Int} {n:Str} (hn:n.length≤24) (ts:List Str):(tyN k n ts).length≤40+JL ts:=by
 have h1:=PH ts
 have h2:=S2 ts.dropLast
 have h3:=bZ ts
 unfold tyN
 repeat' split
 all_goals simp only [AA,AB,AE]
 all_goals omega
theorem gP:∀(d:Nat) (t:TE),Bo d t=true→(Cz t).length+3≤60 * t.size
 |0,t,h=>by simp [Bo] at h
 |d+1,.mk k n l,h=>by
  rw [Bo,AN,A7] at h
  rw [Cz,Pz,TE.size,P8]
  have h1:=tO (k:=k) (vQ h.1) (l.map Cz)
  have h2:=AAB Cz (fun t=>60 * t.size) l (fun x hx=>gP d x (h.2 x hx))
  rw [vY] at h2
  omega
theorem nZ {o:Int} {n:Str} (h:nmB o n=true):n.length≤24∧(shown n).length≤24:=by
 unfold nmB at h
 have hs:n.length≤24→(shown n).length≤24:=fun h=>by rw [shown];split<;>simp_all
 repeat' (split at h)
 · exact ⟨IA h,hs (IA h)⟩
 · exact ⟨NO h,hs (NO h)⟩
 · refine ⟨?_,S1 h⟩
   simp only [GZ,BV,beq_iff_eq] at h
   rcases h with rfl|h
   · simp
   · exact IA h
 · simp only [beq_iff_eq] at h;subst h;exact ⟨by simp,by decide⟩
theorem n8 {o:Int} {ns:List Str} (h:nsB o ns=true):JL (ns.map shown)≤162∧JL ns≤162:=by
 have key:∀m:List Str,m.length≤6→(∀x∈m,x.length≤24)→JL m≤162:=fun m h1 h2=>by
  have:=Xm h2
  have:m.length * 27≤6 * 27:=Ao _ h1
  omega
 have hb:∀s:Str,GZ s=true→s.length≤24:=fun s h=>by
  simp only [GZ,BV,beq_iff_eq] at h
  rcases h with rfl|h
  · simp
  · exact IA h
 have hnb:∀s:Str,D5 s=true→GZ s=true:=fun s h=>by simp [GZ,h]
 unfold nsB at h
 split at h
 · simp only [AN,decide_eq_true_eq,A7] at h
   refine ⟨key _ (by simpa using h.1.2) (fun x hx=>?_),key _ h.1.2 (fun x hx=>hb x (h.2 x hx))⟩
   obtain ⟨y,hy,rfl⟩:=Im.1 hx
   exact S1 (h.2 y hy)
 · split at h
   · simp only [AN,decide_eq_true_eq,A7] at h
     refine ⟨key _ (by simpa using h.1) (fun x hx=>?_),key _ h.1 (fun x hx=>IA (h.2 x hx))⟩
     obtain ⟨y,hy,rfl⟩:=Im.1 hx
     exact S1 (hnb y (h.2 y hy))
   · rw [decide_eq_true_eq,Xn] at h
     subst h;simp [JL,ED]
theorem tL {c:Str} {vs:List Str} {b:Ex} (h:MY (.mk c vs b)=true):(E0 (.mk c vs b)).length≤200+(Af b).length:=by
 simp only [MY,AN,decide_eq_true_eq,A7] at h
 rw [E0,alT]
 have h1:=NO h.1.1
 have h2:=PH (vs.map shown)
 have h3:JL (vs.map shown)≤(vs.map shown).length * 27:=Xm (fun x hx=>by obtain ⟨y,hy,rfl⟩:=Im.1 hx;exact S1 (h.2 y hy))
 have h4:(vs.map shown).length * 27≤6 * 27:=Ao _ (by simpa using h.1.2)
 simp only [AA,AB,AE]
 omega
theorem xJ (l:List Str):(at0 l 0).length+JL l.tail≤JL l:=by
 cases l with
 |nil=>simp [at0,JL,ED]
 |cons x l=>
  rw [Cu]
  show x.length+JL l≤_
  omega
theorem gM (l:List Str):(at0 l 0).length+(at0 l 1).length+(at0 l 2).length≤JL l:=by
 match l with
 |[]=>simp [at0,JL,ED]
 |[x]=>simp [at0,JL,ED]
 |[x,y]=>
  rw [Cu,Cu]
  show x.length+y.length+0≤_
  omega
 |x::y::z::l=>
  rw [Cu,Cu,Cu]
  show x.length+y.length+z.length≤_
  omega
theorem TH (d:Nat) (k:Ex) (t:Str):(pl d k t).length≤2+t.length:=by
 rw [pl];split
 · simp only [Fk,AB,AA,AE];omega
 · omega
theorem gO (t:Str):(Fk t).length≤2+t.length:=by simp only [Fk,AB,AA,AE];omega
theorem tM (ks:List Ex) (ts:List Str):(AAU ks ts).length≤8+JL ts:=by
 unfold AAU
 have h1:=S2 ts.tail
 have h2:=xJ ts
 split
 · omega
 · have h3:=gO (at0 ts 0)
   rename_i k _
   have h4:=TH 4 k (at0 ts 0)
   rw [AA]
   split<;>omega
theorem gN (u:Int):(opT u).length≤10:=by
 unfold opT V5
 split<;>decide
theorem tN (u:Int) (ks:List Ex) (ts:List Str):(sI u ks ts).length≤20+JL ts:=by
 unfold sI
 have h2:=gM ts
 have h3:=gN u
 split
 · rename_i a b
   have h4:=TH (if Cf u=1 then 2 else Cf u) a (at0 ts 0)
   have h5:=TH (if Cf u=1 then 2 else Cf u+1) b (at0 ts 1)
   simp only [AA,AB]
   omega
 · simp
theorem nN (u:Int):(prT u).length≤10:=by
 unfold prT
 repeat' split
 all_goals decide
theorem nL {o u:Int} (h:nuB o u=true):(Lib.itoa u).length≤21:=by
 refine Lib.itoa_length_le u ?_ ?_
 all_goals
  unfold nuB at h
  repeat' (split at h)
  all_goals simp only [AN,decide_eq_true_eq,beq_iff_eq] at h
  all_goals omega
theorem xK {o:Int} {n:Str} {u:Int} {ns:List Str} (hn:nmB o n=true) (hu:nuB o u=true) (hs:nsB o ns=true) (ks:List Ex) (ts as':List Str):(G4 o n u ns ks ts as').length≤250+JL ts+JL as':=by
 obtain ⟨h1,h2⟩:=nZ hn
 obtain ⟨h3,h4⟩:=n8 hs
 have h5:=PH ts
 have h6:=S2 ts
 have h7:=gM ts
 have h8:=tM ks ts
 have h9:=tN u ks ts
 have h10:=nN u
 have h11:=nL hu
 have h12:=gO (Lib.itoa u)
 have h13:=PH (ns.map shown)
 have h14:=S2 ns
 have h15:=Gf (sep:=[32,124,32]) (by decide) as'
 unfold G4
 by_cases h:o=7
 · rw [if_pos h];try simp only [AA,AB,AE]
   omega
 rw [if_neg h];clear h
 by_cases h:o=8
 · rw [if_pos h];try simp only [AA,AB,AE]
   omega
 rw [if_neg h];clear h
 by_cases h:o=9
 · rw [if_pos h];try simp only [AA,AB,AE]
   omega
 rw [if_neg h];clear h
 by_cases h:o=10
 · rw [if_pos h];try simp only [AA,AB,AE]
   omega
 rw [if_neg h];clear h
 by_cases h:o=11
 · rw [if_pos h];try simp only [AA,AB,AE]
   omega
 rw [if_neg h];clear h
 by_cases h:o=17
 · rw [if_pos h];try simp only [AA,AB,AE]
   omega
 rw [if_neg h];clear h
 by_cases h:o=13
 · rw [if_pos h];try simp only [AA,AB,AE]
   omega
 rw [if_neg h];clear h
 by_cases h:o=12
 · rw [if_pos h];try simp only [AA,AB,AE]
   omega
 rw [if_neg h];clear h
 by_cases h:o=1
 · rw [if_pos h];try simp only [AA,AB,AE]
   omega
 rw [if_neg h];clear h
 by_cases h:o=2
 · rw [if_pos h];split<;>(simp only [AB,AE];omega)
 rw [if_neg h];clear h
 by_cases h:o=3
 · rw [if_pos h];try simp only [AA,AB,AE]
   omega
 rw [if_neg h];clear h
 by_cases h:o=5
 · rw [if_pos h];try simp only [AA,AB,AE]
   omega
 rw [if_neg h];clear h
 by_cases h:o=14
 · rw [if_pos h];try simp only [AA,AB,AE]
   omega
 rw [if_neg h];clear h
 by_cases h:o=16
 · rw [if_pos h];try simp only [AA,AB,AE]
   omega
 rw [if_neg h];clear h
 by_cases h:o=15
 · rw [if_pos h];try simp only [AA,AB,AE]
   omega
 rw [if_neg h];clear h
 rw [AA];omega
mutual
theorem VW:∀(e:Ex),e.nb→(Af e).length+250≤800 * e.size
 | .mk o n u ns ks al,h=>by
  rw [Ex.nb] at h
  have hn:=h.1
  simp only [Fi,AN] at hn
  obtain ⟨⟨⟨⟨hnm,hnu⟩,hns⟩,has⟩,hnk⟩:=hn
  rw [Af,Ex.size]
  have h1:=xK hnm hnu hns ks (Wj ks) (Ju al)
  have h2:=Yn ks h.2.1
  have h3:=Ym al h.2.2 (YB has)
  omega
theorem Yn:∀(l:List Ex),Ex.nbs l→JL (Wj l)≤800 * Ex.Ar l
 |[],_=>by simp [Wj,JL,ED]
 |e::l,h=>by
  rw [Ex.nbs] at h
  have h1:=VW e h.1
  have h2:=Yn l h.2
  rw [Wj,Cu,Ex.Ar]
  omega
theorem Ym:∀(l:List Al),Al.nbs l→(∀a∈l,MY a=true)→JL (Ju l)≤800 * Al.Ar l
 |[],_,_=>by simp [Ju,JL,ED]
 | .mk c vs b::l,h,ha=>by
  rw [Al.nbs,Al.nb] at h
  have h1:=VW b h.1
  have h2:=Ym l h.2 (fun a hx=>ha a (Am _ hx))
  have h3:=tL (ha _ (Ah ..))
  rw [Ju,Cu,Al.Ar,Al.size]
  omega
end
theorem TG {α:Type} {f:Nat→α→Option Nat} {μ:α→Nat}:∀(l:List α) (q r:Nat),(∀x∈l,∀a b,f a x=some b→μ x+b≤a)→l.foldlM f q=some r→ED μ l+r≤q
 |[],q,r,_,h=>by
  simp only [List.foldlM_nil] at h
  cases h
  simp [ED]
 |y::l,q,r,hf,h=>by
  rw [List.foldlM_cons,AU,AD] at h
  obtain ⟨b,hb,h⟩:=h
  have h1:=hf y (Ah ..) q b hb
  have h2:=TG l b r (fun x hx=>hf x (Am _ hx)) h
  simp only [ED,AF,List.sum_cons] at h2 ⊢
  omega
theorem bY:∀l:List Ex,Ex.Ar l=ED Ex.size l
 |[]=>rfl
 |e::l=>by rw [Ex.Ar,bY l];simp [ED]
theorem bX:∀l:List Al,Al.Ar l=ED Al.size l
 |[]=>rfl
 |e::l=>by rw [Al.Ar,bX l];simp [ED]
theorem mK:∀(d q:Nat) (e:Ex) (r:Nat),vEx d q e=some r→e.size+r≤q
 |0,q,.mk ..,r,h=>by simp [vEx] at h
 |d+1,0,.mk ..,r,h=>by cases h
 |d+1,q+1,.mk o n u ns ks al,r,h=>by
  simp only [vEx] at h
  split at h
  · rw [AD] at h
    obtain ⟨c,hc,h⟩:=h
    have h1:=TG (μ:=Ex.size) ks q c (fun x _ a b hab=>mK d a x b hab) hc
    have h2:=TG (μ:=Al.size) al c r (fun x _ a b hab=>by
     obtain ⟨cc,vs,bd⟩:=x
     rw [Al.size]
     exact mK d a bd b hab) h
    rw [Ex.size,bY,bX]
    omega
  · cases h
theorem fB {q r:Nat} {f:FE} (h:Pd q f=some r):NH f=true∧f.body.nb∧f.body.size+r≤q:=by
 unfold Pd at h
 split at h
 · rename_i hh;exact ⟨hh,e5 _ _ _ _ h,mK _ _ _ _ h⟩
 · cases h
theorem Sw {p:Pg} (h:C0 p=true):(p.data.length≤12∧∀d∈p.data,Gq d=true)∧p.Rx.length≤24∧∀f∈p.Rx,NH f=true∧f.body.nb∧f.body.size≤600:=by
 simp only [C0,AN,decide_eq_true_eq,A7] at h
 obtain ⟨⟨⟨h1,h2⟩,h3⟩,h4⟩:=h
 obtain ⟨r,hr⟩:=XC.1 h4
 have hs:=TG (μ:=fun f=>f.body.size) p.Rx 600 r (fun x _ a b hab=>(fB hab).2.2) hr
 have ha:=Oq (Q:=fun f=>NH f=true∧f.body.nb) p.Rx 600 r (fun x _ a b hab=>⟨(fB hab).1,(fB hab).2.1⟩) hr
 refine ⟨⟨h1,h3⟩,h2,fun f hf=>⟨(ha f hf).1,(ha f hf).2,?_⟩⟩
 have:=Vh (μ:=fun f:FE=>f.body.size) hf
 omega
theorem WG {α:Type} (f:α→Str) (N:Nat):∀l:List α,(∀x∈l,(f x).length≤N)→(l.map f).flatten.length≤l.length * N
 |[],_=>by simp
 |x::l,h=>by
  have h1:=h x (Ah ..)
  have h2:=WG f N l (fun y hy=>h y (Am _ hy))
  rw [AF,Cl,AA,AB,La]
  omega
theorem qH {c:CE} (h:Ru c=true) (hs:∀t∈c.args,t.size≤100000):(fmtC c).length≤40000000:=by
 simp only [Ru,AN,decide_eq_true_eq,A7] at h
 rw [fmtC,AA]
 have h1:=NO h.1.1
 have h2:=PH (c.args.map Cz)
 have h3:JL (c.args.map Cz)≤(c.args.map Cz).length * (6000000+3):=Xm (fun x hx=>by
  obtain ⟨t,ht,rfl⟩:=Im.1 hx
  have:=gP 40 t (h.2 t ht)
  have:=hs t ht
  omega)
 have h4:(c.args.map Cz).length * (6000000+3)≤6 * (6000000+3):=Ao _ (by simpa using h.1.2)
 omega
theorem k5 {d:DE} (h:Gq d=true) (hs:∀c∈d.cons,∀t∈c.args,t.size≤100000):(U1 d).length≤400000000:=by
 simp only [Gq,AN,decide_eq_true_eq,A7] at h
 obtain ⟨⟨⟨⟨⟨h1,h2⟩,h3⟩,h4⟩,h5⟩,h6⟩:=h
 rw [U1]
 have g1:=NO h1
 have g2:=PH d.vars
 have g3:JL d.vars≤d.vars.length * 27:=Xm (fun x hx=>IA (h3 x hx))
 have g4:d.vars.length * 27≤6 * 27:=Ao _ h2
 have g5:=Gf (sep:=[32,124,32]) (by decide) (d.cons.map fmtC)
 have g6:JL (d.cons.map fmtC)≤(d.cons.map fmtC).length * (40000000+3):=Xm (fun x hx=>by
  obtain ⟨t,ht,rfl⟩:=Im.1 hx
  exact qH (h6 t ht) (hs t ht))
 have g7:(d.cons.map fmtC).length * (40000000+3)≤8 * (40000000+3):=Ao _ (by simpa using h5)
 simp only [AA,AB,AE]
 omega
theorem qI {f:FE} (h:NH f=true) (hb:f.body.nb) (hs:f.body.size≤600):(Vx f).length≤1000000:=by
 simp only [NH,AN,decide_eq_true_eq,A7] at h
 rw [Vx]
 have g1:=IA h.1.1
 have g2:=S2 f.params
 have g3:JL f.params≤f.params.length * 27:=Xm (fun x hx=>IA (h.2 x hx))
 have g4:f.params.length * 27≤6 * 27:=Ao _ h.1.2
 have g5:=VW f.body hb
 simp only [AA,AB,AE]
 omega
theorem xB {p:Pg} (h:C0 p=true) (hs:∀d∈p.data,∀c∈d.cons,∀t∈c.args,t.size≤100000):(aC p).length≤10000000000:=by
 obtain ⟨⟨h1,h2⟩,h3,h4⟩:=Sw h
 rw [aC,AA]
 have g1:=WG U1 400000000 p.data (fun d hd=>k5 (h2 d hd) (hs d hd))
 have g2:=WG Vx 1000000 p.Rx (fun f hf=>qI (h4 f hf).1 (h4 f hf).2.1 (h4 f hf).2.2)
 have g3:p.data.length * 400000000≤12 * 400000000:=Ao _ h1
 have g4:p.Rx.length * 1000000≤24 * 1000000:=Ao _ h3
 omega
end Go.Ab
