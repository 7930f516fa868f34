/- The printer: expressions. Lengths of texts. Conditions: none. -/
import Derived.Lib.ItoaLen
import Derived.Test.YtifplkldbbcldaaGreatDoorXRf
set_option linter.unusedSimpArgs false
set_option linter.unusedVariables false
set_option maxRecDepth 4000
set_option maxHeartbeats 8000000
open List renaming all_eq_true→A6,mem_cons→CK,mem_map→LM,take_of_length_le→A8,map_cons→AF,map_nil→AI,length_cons→AD,length_append→AA,length_nil→AG,append_assoc→AT,cons_append→A0,nil_append→A3,append_nil→AY,mem_cons_of_mem→Ah,mem_cons_self→Aa,getElem?_cons_zero→Cn,length_map→AE,flatten_cons→Cb,length_eq_zero_iff→Wq
open Int renaming reduceBEq→A5,toNat_zero→OL
open Bool renaming and_eq_true→AM,or_eq_true→BR,false_eq_true→AU
open Option renaming bind_some→BZ,bind_eq_bind→AS,bind_eq_some_iff→AB,isSome_iff_exists→WD
open Nat renaming succ_mul→LO,mul_le_mul_right→Ak
namespace Go.Ab
open Go.Proofs
theorem ltI (a b:Nat):decide ((a:Int) < (b:Int))=decide (a < b):=decide_eq_decide.2 (by omega)
theorem eqS (n:Nat):(((n+1:Nat):Int)==0)=false:=C8 (by omega)
theorem rR (f:Ex) (l:List Ex):bR (List.map Ex.enc (f::l)) (some (.d (.int .i64 1))) none none 6=some (.d (.sl (l.map Ex.enc))):=by
 simp [bR,WH,Uf]
 refine ⟨?_,?_⟩
 · rw [iS,A6]
   intro r hr
   rw [beq_iff_eq]
   rcases CK.1 hr with rfl|hr
   · obtain ⟨o,n,u,ns,ks,al⟩:=f;rfl
   · obtain ⟨x,_,rfl⟩:=LM.1 hr
     obtain ⟨o,n,u,ns,ks,al⟩:=x;rfl
 · rw [A8 (by simp)]
set_option maxHeartbeats 8000000 in
theorem Z2 {i:Nat} {o:Int} {n:Str} {u:Int} {ns:List Str} {ks:List Ex} {al:List Al} (hn:GM o n u ns ks.length al=true)
 (hk:∀x∈ks,∀lev,EC i x lev)
 (ha:∀x∈al,∀j,WX (fun σ=>σ.blk j=some [.gp i 0]) 143 ([]++[alA x]++[.gp j 0]) i (Mg x)) (lev:Nat) (hlv0:¬lvl (.mk o n u ns ks al) < lev):EC i (.mk o n u ns ks al) lev:=by
 have hko:∀x∈ks,WC 139 [.gp i 0,exA x] i (Ay x):=fun x hx=>bE (hk x hx 0)
 intro σ0 σ s hH hb0 hlen
 rw [pl,if_neg hlv0] at hlen ⊢
 have hlv:=dM (.mk o n u ns ks al) σ
 have hlt:decide (lvl (.mk o n u ns ks al) < lev)=false:=decide_eq_false hlv0
 refine Jm (by simp) ?_
 rw [H2]
 by_cases ho:j9 o
 · have hl:=tX hn ho hko ha
   simp only [exA,Ex.A2,AF,AI] at hlv hl ⊢
   generalize lvl (.mk o n u ns ks al)=lv at hlv hlt
   generalize Ay (.mk o n u ns ks al)=txt at hl hlen ⊢
   rcases ho with rfl|rfl|rfl|rfl|rfl|rfl
   all_goals (repeat' (first|refine Run.ct rfl ?_|((first|refine Run.reg mixed ?_|refine Run.AL ?_|(refine AH.mk rfl (hl σ0 σ _ hH hb0 (by (try simp only [AD,AA,AG] at hlen ⊢);omega)) ?_;rintro _ σ1 ⟨rfl,hb1⟩)|refine AH.det (hlv) ?_|(refine AR rfl (fun h=>?_) (fun h=>?_)<;>try (cases h;done)))<;>try simp -implicitDefEqProofs only [A5,ltI,hlt,go_sem])|(refine ⟨fun h=>?_,fun h=>?_⟩<;>first|(cases h;done)|try simp only [h])|fail))
   all_goals try simp only [AT,A0,A3,AY] at hb1 ⊢
   all_goals exact Run.fin Ba rfl (fun _ _ h=>h) (AN.le_refl _) ⟨rfl,hb1⟩
 by_cases h13:o=13
 · subst h13
   have hn':=hn
   simp only [GM,AM] at hn'
   obtain ⟨⟨⟨⟨hnm,hnu⟩,hns⟩,has⟩,hnk⟩:=hn'
   simp [nuB] at hnu
   obtain ⟨a,b,rfl⟩:=Sn (by simpa [nkB] using hnk)
   have hka:=hk a (by simp) (plL u)
   have hkb:=hk b (by simp) (plR u)
   have hpl:=VX u σ
   have e:Ay (.mk 13 n u ns [a,b] al)=pl (plL u) a (Ay a)++([32]++(opT u++([32]++pl (plR u) b (Ay b)))):=by
    rw [Ay,MW];rfl
   rw [e] at hlen ⊢
   clear e
   unfold EC at hka hkb
   generalize pl (plL u) a (Ay a)=ta at *
   generalize pl (plR u) b (Ay b)=tb at *
   obtain ⟨oa,na,ua,nsa,ksa,ala⟩:=a
   obtain ⟨ob,nb,ub,nsb,ksb,alb⟩:=b
   simp only [exA,Ex.A2,AF,AI] at hka hkb hlv ⊢
   generalize lvl _=lv at hlv hlt
   have hlen2:=hlen
   simp only [AD,AA,AG] at hlen2
   have ha1:=HF (a:=[32]) (b:=opT u) (by simp only [AD,AG];omega)
   have ha2:=HF (a:=[32]++opT u) (b:=[32]) (by simp only [AA,AD,AG];omega)
   simp only [A0,A3] at ha1 ha2
   have hot:=fun σ=>QS u σ ⟨hnu.1,hnu.2⟩
   (repeat' (first|refine Run.ct rfl ?_|((first|refine Run.reg mixed ?_|refine Run.AL ?_|(refine AH.mk rfl (hka σ0 σ _ hH hb0 (by (try simp only [AD,AA,AG] at hlen ⊢);omega)) ?_;rintro _ σ1 ⟨rfl,hb1⟩)|refine AH.det (hlv) ?_|refine AH.det (hpl) ?_|(refine AR rfl (fun h=>?_) (fun h=>?_)<;>try (cases h;done)))<;>try simp -implicitDefEqProofs only [A5,ltI,hlt,ha1,ha2,go_sem])|(refine ⟨fun h=>?_,fun h=>?_⟩<;>first|(cases h;done)|try simp only [h])|fail))
   (repeat' (first|refine Run.ct rfl ?_|((first|refine Run.reg mixed ?_|refine Run.AL ?_|(refine AH.mk rfl (A4 _ hb1 (by (try simp only [AD,AA,AG] at hlen ⊢);omega)) ?_;rintro _ σ2 ⟨rfl,hb2⟩)|refine AH.det (hot _) ?_|(refine AR rfl (fun h=>?_) (fun h=>?_)<;>try (cases h;done)))<;>try simp -implicitDefEqProofs only [A5,ltI,hlt,ha1,ha2,go_sem])|(refine ⟨fun h=>?_,fun h=>?_⟩<;>first|(cases h;done)|try simp only [h])|fail))
   (repeat' (first|refine Run.ct rfl ?_|((first|refine Run.reg mixed ?_|refine Run.AL ?_|(refine AH.mk rfl (hkb σ0 σ2 _ hH hb2 (by (try simp only [AD,AA,AG] at hlen ⊢);omega)) ?_;rintro _ σ3 ⟨rfl,hb3⟩)|(refine AR rfl (fun h=>?_) (fun h=>?_)<;>try (cases h;done)))<;>try simp -implicitDefEqProofs only [A5,ltI,hlt,ha1,ha2,go_sem])|(refine ⟨fun h=>?_,fun h=>?_⟩<;>first|(cases h;done)|try simp only [h])|fail))
   try simp only [AT,A0,A3,AY] at hb3 ⊢
   exact Run.fin Ba rfl (fun _ _ h=>h) (AN.le_refl _) ⟨rfl,hb3⟩
 by_cases h12:o=12
 · subst h12
   have hn':=hn
   simp only [GM,AM] at hn'
   obtain ⟨⟨⟨⟨hnm,hnu⟩,hns⟩,has⟩,hnk⟩:=hn'
   cases ks with
   |nil=>simp [nkB] at hnk
   |cons f l=>
   have hli:=j8 (i:=i) (ks:=l) (fun x hx=>hko x (Ah _ hx))
   have hf4:=hk f (Aa ..) 4
   have hfp:=Oe (hko f (Aa ..))
   have e:Ay (.mk 12 n u ns (f::l) al)=(if M2 f then JH (Ay f) else pl 4 f (Ay f))++I9 (l.map Ay):=by
    rw [Ay,MW];rfl
   rw [e] at hlen ⊢
   clear e
   unfold EC at hf4
   have hsl:bR (List.map Ex.enc (f::l)) (some (.d (.int .i64 1))) none none 6=some (.d (.sl (l.map Ex.enc))):=rR f l
   generalize hpp:JH (Ay f)=tp at *
   generalize pl 4 f (Ay f)=tq at *
   clear hpp
   obtain ⟨of,nf,uf,nsf,ksf,alf⟩:=f
   simp only [exA,Ex.A2,AF,AI] at hf4 hfp hlv hsl ⊢
   generalize lvl _=lv at hlv hlt
   by_cases h6:of=6
   · subst h6
     cases ksf with
     |nil=>
      have hbc:M2 (.mk 6 nf uf nsf [] alf)=true:=rfl
      rw [hbc,if_pos rfl] at hlen ⊢
      simp only [AI] at hf4 hfp hlv hsl ⊢
      (repeat' (first|refine Run.ct rfl ?_|((first|refine Run.reg mixed ?_|refine Run.AL ?_|(refine AH.mk rfl (hfp σ0 σ _ hH hb0 (by (try simp only [AD,AA,AG] at hlen ⊢);omega)) ?_;rintro _ σ1 ⟨rfl,hb1⟩)|refine AH.det (hlv) ?_|(refine AR rfl (fun h=>?_) (fun h=>?_)<;>try (cases h;done)))<;>try simp -implicitDefEqProofs only [A5,ltI,hlt,hsl,Int.le_refl,if_true,OL,Cn,BZ,AD,AG,go_sem])|(refine ⟨fun h=>?_,fun h=>?_⟩<;>first|(cases h;done)|try simp only [h])|fail))
      (repeat' (first|refine Run.ct rfl ?_|((first|refine Run.reg mixed ?_|refine Run.AL ?_|(refine AH.mk rfl (hli σ0 σ1 _ hH hb1 (by (try simp only [AD,AA,AG] at hlen ⊢);omega)) ?_;rintro _ σ2 ⟨rfl,hb2⟩)|(refine AR rfl (fun h=>?_) (fun h=>?_)<;>try (cases h;done)))<;>try simp -implicitDefEqProofs only [A5,ltI,hlt,hsl,Int.le_refl,if_true,OL,Cn,BZ,AD,AG,go_sem])|(refine ⟨fun h=>?_,fun h=>?_⟩<;>first|(cases h;done)|try simp only [h])|fail))
      try simp only [AT,A0,A3,AY] at hb2 ⊢
      exact Run.fin Ba rfl (fun _ _ h=>h) (AN.le_refl _) ⟨rfl,hb2⟩
     |cons k1 l1=>
      have hbc:M2 (.mk 6 nf uf nsf (k1::l1) alf)=false:=rfl
      rw [hbc,if_neg (by decide)] at hlen ⊢
      simp only [AF] at hf4 hfp hlv hsl ⊢
      (repeat' (first|refine Run.ct rfl ?_|((first|refine Run.reg mixed ?_|refine Run.AL ?_|(refine AH.mk rfl (hf4 σ0 σ _ hH hb0 (by (try simp only [AD,AA,AG] at hlen ⊢);omega)) ?_;rintro _ σ1 ⟨rfl,hb1⟩)|refine AH.det (hlv) ?_|(refine AR rfl (fun h=>?_) (fun h=>?_)<;>try (cases h;done)))<;>try simp -implicitDefEqProofs only [A5,ltI,hlt,hsl,Int.le_refl,if_true,OL,Cn,BZ,AD,AG,eqS,AE,go_sem])|(refine ⟨fun h=>?_,fun h=>?_⟩<;>first|(cases h;done)|try simp only [h])|fail))
      (repeat' (first|refine Run.ct rfl ?_|((first|refine Run.reg mixed ?_|refine Run.AL ?_|(refine AH.mk rfl (hli σ0 σ1 _ hH hb1 (by (try simp only [AD,AA,AG] at hlen ⊢);omega)) ?_;rintro _ σ2 ⟨rfl,hb2⟩)|(refine AR rfl (fun h=>?_) (fun h=>?_)<;>try (cases h;done)))<;>try simp -implicitDefEqProofs only [A5,ltI,hlt,hsl,Int.le_refl,if_true,OL,Cn,BZ,AD,AG,eqS,AE,go_sem])|(refine ⟨fun h=>?_,fun h=>?_⟩<;>first|(cases h;done)|try simp only [h])|fail))
      try simp only [AT,A0,A3,AY] at hb2 ⊢
      exact Run.fin Ba rfl (fun _ _ h=>h) (AN.le_refl _) ⟨rfl,hb2⟩
   · have hbc:M2 (.mk of nf uf nsf ksf alf)=false:=by show (of==6&&_)=false;rw [C8 h6];rfl
     rw [hbc,if_neg (by decide)] at hlen ⊢
     (repeat' (first|refine Run.ct rfl ?_|((first|refine Run.reg mixed ?_|refine Run.AL ?_|(refine AH.mk rfl (hf4 σ0 σ _ hH hb0 (by (try simp only [AD,AA,AG] at hlen ⊢);omega)) ?_;rintro _ σ1 ⟨rfl,hb1⟩)|refine AH.det (hlv) ?_|(refine AR rfl (fun h=>?_) (fun h=>?_)<;>try (cases h;done)))<;>try simp -implicitDefEqProofs only [A5,ltI,hlt,hsl,Int.le_refl,if_true,OL,Cn,BZ,AD,AG,C8 h6,go_sem])|(refine ⟨fun h=>?_,fun h=>?_⟩<;>first|(cases h;done)|try simp only [h])|fail))
     (repeat' (first|refine Run.ct rfl ?_|((first|refine Run.reg mixed ?_|refine Run.AL ?_|(refine AH.mk rfl (hli σ0 σ1 _ hH hb1 (by (try simp only [AD,AA,AG] at hlen ⊢);omega)) ?_;rintro _ σ2 ⟨rfl,hb2⟩)|(refine AR rfl (fun h=>?_) (fun h=>?_)<;>try (cases h;done)))<;>try simp -implicitDefEqProofs only [A5,ltI,hlt,hsl,Int.le_refl,if_true,OL,Cn,BZ,AD,AG,C8 h6,go_sem])|(refine ⟨fun h=>?_,fun h=>?_⟩<;>first|(cases h;done)|try simp only [h])|fail))
     try simp only [AT,A0,A3,AY] at hb2 ⊢
     exact Run.fin Ba rfl (fun _ _ h=>h) (AN.le_refl _) ⟨rfl,hb2⟩
 have hn':=hn
 simp only [GM,AM] at hn'
 obtain ⟨⟨⟨⟨hnm,hnu⟩,hns⟩,has⟩,hnk⟩:=hn'
 have hop:=kB hnk
 have hpo:rC o:=by unfold rC;unfold j9 at ho;omega
 have hl:=rE hn hpo hko
 simp only [exA,Ex.A2,AF,AI] at hlv hl ⊢
 generalize lvl (.mk o n u ns ks al)=lv at hlv hlt
 generalize Ay (.mk o n u ns ks al)=txt at hl hlen ⊢
 simp only [j9,not_or] at ho
 obtain ⟨h1,h2,h3,h4,h5,h6⟩:=ho
 (repeat' (first|refine Run.ct rfl ?_|((first|refine Run.reg mixed ?_|refine Run.AL ?_|(refine AH.mk rfl (hl σ0 σ _ hH hb0 (by (try simp only [AD,AA,AG] at hlen ⊢);omega)) ?_;rintro _ σ1 ⟨rfl,hb1⟩)|refine AH.det (hlv) ?_|(refine AR rfl (fun h=>?_) (fun h=>?_)<;>try (cases h;done)))<;>try simp -implicitDefEqProofs only [A5,ltI,hlt,C8 h1,C8 h2,C8 h3,C8 h4,C8 h5,C8 h6,C8 h12,C8 h13,go_sem])|(refine ⟨fun h=>?_,fun h=>?_⟩<;>first|(cases h;done)|try simp only [h])|fail))
 try simp only [AT,A0,A3,AY] at hb1 ⊢
 exact Run.fin Ba rfl (fun _ _ h=>h) (AN.le_refl _) ⟨rfl,hb1⟩
theorem lM {i:Nat} {o:Int} {n:Str} {u:Int} {ns:List Str} {ks:List Ex} {al:List Al} (hn:GM o n u ns ks.length al=true)
 (hk:∀x∈ks,∀lev,EC i x lev)
 (ha:∀x∈al,∀j,WX (fun σ=>σ.blk j=some [.gp i 0]) 143 ([]++[alA x]++[.gp j 0]) i (Mg x)) (lev:Nat):EC i (.mk o n u ns ks al) lev:=by
 by_cases hlv0:lvl (.mk o n u ns ks al) < lev
 · have hpa:=Oe (bE (Z2 hn hk ha 0 (by omega)))
   intro σ0 σ s hH hb0 hlen
   rw [pl,if_pos hlv0] at hlen ⊢
   have hlv:=dM (.mk o n u ns ks al) σ
   have hlt:decide (lvl (.mk o n u ns ks al) < lev)=true:=decide_eq_true hlv0
   refine Jm (by simp) ?_
   rw [H2]
   simp only [exA,Ex.A2,AF,AI] at hlv hpa ⊢
   generalize lvl (.mk o n u ns ks al)=lv at hlv hlt
   generalize JH (Ay (.mk o n u ns ks al))=txt at hpa hlen ⊢
   (repeat' (first|refine Run.ct rfl ?_|((first|refine Run.reg mixed ?_|refine Run.AL ?_|(refine AH.mk rfl (hpa σ0 σ _ hH hb0 (by (try simp only [AD,AA,AG] at hlen ⊢);omega)) ?_;rintro _ σ1 ⟨rfl,hb1⟩)|refine AH.det (hlv) ?_|(refine AR rfl (fun h=>?_) (fun h=>?_)<;>try (cases h;done)))<;>try simp -implicitDefEqProofs only [ltI,hlt,go_sem])|(refine ⟨fun h=>?_,fun h=>?_⟩<;>first|(cases h;done)|try simp only [h])|fail))
   exact Run.F7 Ba (AN.le_refl _) ⟨rfl,hb1⟩
 · exact Z2 hn hk ha lev hlv0
mutual
theorem aE (i:Nat):∀(e:Ex),e.nb→∀lev,EC i e lev
 | .mk o n u ns ks al,h,lev=>by
  rw [Ex.nb] at h
  exact lM h.1 (cS i ks h.2.1) (jM i al h.2.2) lev
theorem cS (i:Nat):∀(l:List Ex),Ex.nbs l→∀x∈l,∀lev,EC i x lev
 |[],_,x,hx,_=>by cases hx
 |e::l,h,x,hx,lev=>by
  rw [Ex.nbs] at h
  rcases CK.1 hx with hxe|hx
  · rw [hxe];exact aE i e h.1 lev
  · exact cS i l h.2 x hx lev
theorem jM (i:Nat):∀(l:List Al),Al.nbs l→∀x∈l,∀j,WX (fun σ=>σ.blk j=some [.gp i 0]) 143 ([]++[alA x]++[.gp j 0]) i (Mg x)
 |[],_,x,hx,_=>by cases hx
 | .mk c vs b::l,h,x,hx,j=>by
  rw [Al.nbs,Al.nb] at h
  rcases CK.1 hx with hxe|hx
  · rw [hxe];exact w4 j (bE (aE i b h.1 0))
  · exact jM i l h.2 x hx j
end
end Go.Ab
namespace Go.Ab
theorem Hl {s:Str} (h:DU s=true):s.length≤24:=by
 obtain ⟨b,r,rfl,_,_,h3,h4⟩:=Xo h
 first|exact h3|exact h4|omega
theorem Oa {s:Str} (h:upperB s=true):s.length≤24:=by
 obtain ⟨b,r,rfl,_,_,h4⟩:=Vd h
 exact h4
theorem U9 {s:Str} (h:GF s=true):(shown s).length≤24:=by
 rw [shown]
 split
 · simp
 · rename_i hs
   simp only [GF,BR,beq_iff_eq] at h
   exact Hl (h.resolve_left hs)
def JL (l:List Str):Nat:=Ds (fun x=>x.length+3) l
theorem G2 (x:Str) (l:List Str):JL (x::l)=x.length+3+JL l:=by simp [JL,Ds]
theorem jZ (sep:Str) (hs:sep.length≤3):∀l:List Str,(Lib.joinTail sep l).length≤JL l
 |[]=>by simp [Lib.joinTail,JL,Ds]
 |x::l=>by
  have:=jZ sep hs l
  rw [G2]
  simp only [Lib.joinTail,AF,Cb,AA] at this ⊢
  omega
theorem S2 {sep:Str} (hs:sep.length≤3) (l:List Str):(Lib.join l sep).length≤JL l:=by
 cases l with
 |nil=>simp [Lib.join_nil]
 |cons x l=>
  rw [Lib.join_cons,G2,AA]
  have:=jZ sep hs l
  omega
theorem O9 (l:List Str):(Ia l).length≤2+JL l:=by
 rw [Ia]
 split
 · simp
 · have:=S2 (sep:=[44,32]) (by decide) l
   simp only [JH,cms,AD,AA,AG];omega
theorem Rp (l:List Str):(I9 l).length≤2+JL l:=by
 have:=S2 (sep:=[44,32]) (by decide) l
 simp only [I9,JH,cms,AD,AA,AG];omega
theorem ZM {l:List Str} {N:Nat} (h:∀x∈l,x.length≤N):JL l≤l.length * (N+3):=by
 induction l with
 |nil=>simp [JL,Ds]
 |cons x l ih=>
  rw [G2,AD,LO]
  have h1:=h x (Aa ..)
  have h2:=ih (fun y hy=>h y (Ah _ hy))
  omega
theorem wM {α:Type} (f:α→Str) (μ:α→Nat) (l:List α) (h:∀x∈l,(f x).length+3≤μ x):JL (l.map f)≤Ds μ l:=by
 induction l with
 |nil=>simp [JL,Ds]
 |cons x l ih=>
  rw [AF,G2]
  have h1:=h x (Aa ..)
  have h2:=ih (fun y hy=>h y (Ah _ hy))
  simp only [Ds,AF,List.sum_cons] at h2 ⊢
  omega
theorem rY {α:Type} (c:Nat) (μ:α→Nat) (l:List α):Ds (fun x=>c * μ x) l=c * Ds μ l:=by
 induction l with
 |nil=>simp [Ds]
 |cons x l ih=>simp only [Ds,AF,List.sum_cons,Nat.mul_add] at ih ⊢;omega
theorem Z7:∀l:List Str,JL l.dropLast+(l.getLastD []).length≤JL l
 |[]=>by simp [JL,Ds]
 |[x]=>by simp [JL,Ds]
 |x::y::l=>by
  have:=Z7 (y::l)
  rw [List.dropLast_cons_cons,G2,G2]
  have e:(x::y::l).getLastD []=(y::l).getLastD []:=by simp
  rw [e];omega
theorem rQ {k:Int} {n:Str} {q:Nat} (h:Cl k n q=true):n.length≤24:=by
 unfold Cl at h
 repeat' (split at h)
 all_goals simp only [AM,beq_iff_eq,AU] at h
 all_goals first|exact Hl h.1|exact Oa h.1|(have:=h.1;subst this;simp)|(have:=h.1.1;subst this;simp)
theorem pT {k:Int} {n:Str} (hn:n.length≤24) (ts:List Str):(tyN k n ts).length≤40+JL ts:=by
 have h1:=O9 ts
 have h2:=Rp ts.dropLast
 have h3:=Z7 ts
 unfold tyN
 repeat' split
 all_goals simp only [AA,AD,AG]
 all_goals omega
theorem dI:∀(d:Nat) (t:TE),Bi d t=true→(Co t).length+3≤60 * t.size
 |0,t,h=>by simp [Bi] at h
 |d+1,.mk k n l,h=>by
  rw [Bi,AM,A6] at h
  rw [Co,P1,TE.size,PB]
  have h1:=pT (k:=k) (rQ h.1) (l.map Co)
  have h2:=wM Co (fun t=>60 * t.size) l (fun x hx=>dI d x (h.2 x hx))
  rw [rY] at h2
  omega
theorem uF {o:Int} {n:Str} (h:nmB o n=true):n.length≤24∧(shown n).length≤24:=by
 unfold nmB at h
 have hs:n.length≤24→(shown n).length≤24:=fun h=>by rw [shown];split<;>simp_all
 repeat' (split at h)
 · exact ⟨Hl h,hs (Hl h)⟩
 · exact ⟨Oa h,hs (Oa h)⟩
 · refine ⟨?_,U9 h⟩
   simp only [GF,BR,beq_iff_eq] at h
   rcases h with rfl|h
   · simp
   · exact Hl h
 · simp only [beq_iff_eq] at h;subst h;exact ⟨by simp,by decide⟩
theorem uM {o:Int} {ns:List Str} (h:nsB o ns=true):JL (ns.map shown)≤162∧JL ns≤162:=by
 have key:∀m:List Str,m.length≤6→(∀x∈m,x.length≤24)→JL m≤162:=fun m h1 h2=>by
  have:=ZM h2
  have:m.length * 27≤6 * 27:=Ak _ h1
  omega
 have hb:∀s:Str,GF s=true→s.length≤24:=fun s h=>by
  simp only [GF,BR,beq_iff_eq] at h
  rcases h with rfl|h
  · simp
  · exact Hl h
 have hnb:∀s:Str,DU s=true→GF s=true:=fun s h=>by simp [GF,h]
 unfold nsB at h
 split at h
 · simp only [AM,decide_eq_true_eq,A6] at h
   refine ⟨key _ (by simpa using h.1.2) (fun x hx=>?_),key _ h.1.2 (fun x hx=>hb x (h.2 x hx))⟩
   obtain ⟨y,hy,rfl⟩:=LM.1 hx
   exact U9 (h.2 y hy)
 · split at h
   · simp only [AM,decide_eq_true_eq,A6] at h
     refine ⟨key _ (by simpa using h.1) (fun x hx=>?_),key _ h.1 (fun x hx=>Hl (h.2 x hx))⟩
     obtain ⟨y,hy,rfl⟩:=LM.1 hx
     exact U9 (hnb y (h.2 y hy))
   · rw [decide_eq_true_eq,Wq] at h
     subst h;simp [JL,Ds]
theorem pP {c:Str} {vs:List Str} {b:Ex} (h:M1 (.mk c vs b)=true):(Mg (.mk c vs b)).length≤200+(Ay b).length:=by
 simp only [M1,AM,decide_eq_true_eq,A6] at h
 rw [Mg,alT]
 have h1:=Oa h.1.1
 have h2:=O9 (vs.map shown)
 have h3:JL (vs.map shown)≤(vs.map shown).length * 27:=ZM (fun x hx=>by obtain ⟨y,hy,rfl⟩:=LM.1 hx;exact U9 (h.2 y hy))
 have h4:(vs.map shown).length * 27≤6 * 27:=Ak _ (by simpa using h.1.2)
 simp only [AA,AD,AG]
 omega
theorem tG (l:List Str):(at0 l 0).length+JL l.tail≤JL l:=by
 cases l with
 |nil=>simp [at0,JL,Ds]
 |cons x l=>
  rw [G2]
  show x.length+JL l≤_
  omega
theorem dF (l:List Str):(at0 l 0).length+(at0 l 1).length+(at0 l 2).length≤JL l:=by
 match l with
 |[]=>simp [at0,JL,Ds]
 |[x]=>simp [at0,JL,Ds]
 |[x,y]=>
  rw [G2,G2]
  show x.length+y.length+0≤_
  omega
 |x::y::z::l=>
  rw [G2,G2,G2]
  show x.length+y.length+z.length≤_
  omega
theorem aU (d:Nat) (k:Ex) (t:Str):(pl d k t).length≤2+t.length:=by
 rw [pl];split
 · simp only [JH,AD,AA,AG];omega
 · omega
theorem dH (t:Str):(JH t).length≤2+t.length:=by simp only [JH,AD,AA,AG];omega
theorem pQ (ks:List Ex) (ts:List Str):(w8 ks ts).length≤8+JL ts:=by
 unfold w8
 have h1:=Rp ts.tail
 have h2:=tG ts
 split
 · omega
 · have h3:=dH (at0 ts 0)
   rename_i k _
   have h4:=aU 4 k (at0 ts 0)
   rw [AA]
   split<;>omega
theorem pS (u:Int):(opT u).length≤10:=by
 unfold opT Uh
 split<;>decide
theorem pR (u:Int) (ks:List Ex) (ts:List Str):(xC u ks ts).length≤20+JL ts:=by
 unfold xC
 have h2:=dF ts
 have h3:=pS u
 split
 · rename_i a b
   have h4:=aU (if E7 u=1 then 2 else E7 u) a (at0 ts 0)
   have h5:=aU (if E7 u=1 then 2 else E7 u+1) b (at0 ts 1)
   simp only [AA,AD]
   omega
 · simp
theorem tJ (u:Int):(prT u).length≤10:=by
 unfold prT
 repeat' split
 all_goals decide
theorem tI {o u:Int} (h:nuB o u=true):(Lib.itoa u).length≤21:=by
 refine Lib.itoa_length_le u ?_ ?_
 all_goals
  unfold nuB at h
  repeat' (split at h)
  all_goals simp only [AM,decide_eq_true_eq,beq_iff_eq] at h
  all_goals omega
theorem tH {o:Int} {n:Str} {u:Int} {ns:List Str} (hn:nmB o n=true) (hu:nuB o u=true) (hs:nsB o ns=true) (ks:List Ex) (ts as':List Str):(PW o n u ns ks ts as').length≤250+JL ts+JL as':=by
 obtain ⟨h1,h2⟩:=uF hn
 obtain ⟨h3,h4⟩:=uM hs
 have h5:=O9 ts
 have h6:=Rp ts
 have h7:=dF ts
 have h8:=pQ ks ts
 have h9:=pR u ks ts
 have h10:=tJ u
 have h11:=tI hu
 have h12:=dH (Lib.itoa u)
 have h13:=O9 (ns.map shown)
 have h14:=Rp ns
 have h15:=S2 (sep:=[32,124,32]) (by decide) as'
 unfold PW
 by_cases h:o=7
 · rw [if_pos h];try simp only [AA,AD,AG]
   omega
 rw [if_neg h];clear h
 by_cases h:o=8
 · rw [if_pos h];try simp only [AA,AD,AG]
   omega
 rw [if_neg h];clear h
 by_cases h:o=9
 · rw [if_pos h];try simp only [AA,AD,AG]
   omega
 rw [if_neg h];clear h
 by_cases h:o=10
 · rw [if_pos h];try simp only [AA,AD,AG]
   omega
 rw [if_neg h];clear h
 by_cases h:o=11
 · rw [if_pos h];try simp only [AA,AD,AG]
   omega
 rw [if_neg h];clear h
 by_cases h:o=17
 · rw [if_pos h];try simp only [AA,AD,AG]
   omega
 rw [if_neg h];clear h
 by_cases h:o=13
 · rw [if_pos h];try simp only [AA,AD,AG]
   omega
 rw [if_neg h];clear h
 by_cases h:o=12
 · rw [if_pos h];try simp only [AA,AD,AG]
   omega
 rw [if_neg h];clear h
 by_cases h:o=1
 · rw [if_pos h];try simp only [AA,AD,AG]
   omega
 rw [if_neg h];clear h
 by_cases h:o=2
 · rw [if_pos h];split<;>(simp only [AD,AG];omega)
 rw [if_neg h];clear h
 by_cases h:o=3
 · rw [if_pos h];try simp only [AA,AD,AG]
   omega
 rw [if_neg h];clear h
 by_cases h:o=5
 · rw [if_pos h];try simp only [AA,AD,AG]
   omega
 rw [if_neg h];clear h
 by_cases h:o=14
 · rw [if_pos h];try simp only [AA,AD,AG]
   omega
 rw [if_neg h];clear h
 by_cases h:o=16
 · rw [if_pos h];try simp only [AA,AD,AG]
   omega
 rw [if_neg h];clear h
 by_cases h:o=15
 · rw [if_pos h];try simp only [AA,AD,AG]
   omega
 rw [if_neg h];clear h
 rw [AA];omega
mutual
theorem aT:∀(e:Ex),e.nb→(Ay e).length+250≤800 * e.size
 | .mk o n u ns ks al,h=>by
  rw [Ex.nb] at h
  have hn:=h.1
  simp only [GM,AM] at hn
  obtain ⟨⟨⟨⟨hnm,hnu⟩,hns⟩,has⟩,hnk⟩:=hn
  rw [Ay,Ex.size]
  have h1:=tH hnm hnu hns ks (Vn ks) (Jd al)
  have h2:=dG ks h.2.1
  have h3:=dE al h.2.2 (fP has)
  omega
theorem dG:∀(l:List Ex),Ex.nbs l→JL (Vn l)≤800 * Ex.As l
 |[],_=>by simp [Vn,JL,Ds]
 |e::l,h=>by
  rw [Ex.nbs] at h
  have h1:=aT e h.1
  have h2:=dG l h.2
  rw [Vn,G2,Ex.As]
  omega
theorem dE:∀(l:List Al),Al.nbs l→(∀a∈l,M1 a=true)→JL (Jd l)≤800 * Al.As l
 |[],_,_=>by simp [Jd,JL,Ds]
 | .mk c vs b::l,h,ha=>by
  rw [Al.nbs,Al.nb] at h
  have h1:=aT b h.1
  have h2:=dE l h.2 (fun a hx=>ha a (Ah _ hx))
  have h3:=pP (ha _ (Aa ..))
  rw [Jd,G2,Al.As,Al.size]
  omega
end
theorem S1 {α:Type} {f:Nat→α→Option Nat} {μ:α→Nat}:∀(l:List α) (q r:Nat),(∀x∈l,∀a b,f a x=some b→μ x+b≤a)→l.foldlM f q=some r→Ds μ l+r≤q
 |[],q,r,_,h=>by
  simp only [List.foldlM_nil] at h
  cases h
  simp [Ds]
 |y::l,q,r,hf,h=>by
  rw [List.foldlM_cons,AS,AB] at h
  obtain ⟨b,hb,h⟩:=h
  have h1:=hf y (Aa ..) q b hb
  have h2:=S1 l b r (fun x hx=>hf x (Ah _ hx)) h
  simp only [Ds,AF,List.sum_cons] at h2 ⊢
  omega
theorem Z6:∀l:List Ex,Ex.As l=Ds Ex.size l
 |[]=>rfl
 |e::l=>by rw [Ex.As,Z6 l];simp [Ds]
theorem Z5:∀l:List Al,Al.As l=Ds Al.size l
 |[]=>rfl
 |e::l=>by rw [Al.As,Z5 l];simp [Ds]
theorem jC:∀(d q:Nat) (e:Ex) (r:Nat),vEx d q e=some r→e.size+r≤q
 |0,q,.mk ..,r,h=>by simp [vEx] at h
 |d+1,0,.mk ..,r,h=>by cases h
 |d+1,q+1,.mk o n u ns ks al,r,h=>by
  simp only [vEx] at h
  split at h
  · rw [AB] at h
    obtain ⟨c,hc,h⟩:=h
    have h1:=S1 (μ:=Ex.size) ks q c (fun x _ a b hab=>jC d a x b hab) hc
    have h2:=S1 (μ:=Al.size) al c r (fun x _ a b hab=>by
     obtain ⟨cc,vs,bd⟩:=x
     rw [Al.size]
     exact jC d a bd b hab) h
    rw [Ex.size,Z6,Z5]
    omega
  · cases h
theorem bY {q r:Nat} {f:FE} (h:PG q f=some r):Ml f=true∧f.body.nb∧f.body.size+r≤q:=by
 unfold PG at h
 split at h
 · rename_i hh;exact ⟨hh,bX _ _ _ _ h,jC _ _ _ _ h⟩
 · cases h
theorem Vz {p:Pg} (h:Cw p=true):(p.data.length≤12∧∀d∈p.data,G6 d=true)∧p.RX.length≤24∧∀f∈p.RX,Ml f=true∧f.body.nb∧f.body.size≤600:=by
 simp only [Cw,AM,decide_eq_true_eq,A6] at h
 obtain ⟨⟨⟨h1,h2⟩,h3⟩,h4⟩:=h
 obtain ⟨r,hr⟩:=WD.1 h4
 have hs:=S1 (μ:=fun f=>f.body.size) p.RX 600 r (fun x _ a b hab=>(bY hab).2.2) hr
 have ha:=OV (Q:=fun f=>Ml f=true∧f.body.nb) p.RX 600 r (fun x _ a b hab=>⟨(bY hab).1,(bY hab).2.1⟩) hr
 refine ⟨⟨h1,h3⟩,h2,fun f hf=>⟨(ha f hf).1,(ha f hf).2,?_⟩⟩
 have:=Ur (μ:=fun f:FE=>f.body.size) hf
 omega
theorem VO {α:Type} (f:α→Str) (N:Nat):∀l:List α,(∀x∈l,(f x).length≤N)→(l.map f).flatten.length≤l.length * N
 |[],_=>by simp
 |x::l,h=>by
  have h1:=h x (Aa ..)
  have h2:=VO f N l (fun y hy=>h y (Ah _ hy))
  rw [AF,Cb,AA,AD,LO]
  omega
theorem mJ {c:CE} (h:RT c=true) (hs:∀t∈c.args,t.size≤100000):(fmtC c).length≤40000000:=by
 simp only [RT,AM,decide_eq_true_eq,A6] at h
 rw [fmtC,AA]
 have h1:=Oa h.1.1
 have h2:=O9 (c.args.map Co)
 have h3:JL (c.args.map Co)≤(c.args.map Co).length * (6000000+3):=ZM (fun x hx=>by
  obtain ⟨t,ht,rfl⟩:=LM.1 hx
  have:=dI 40 t (h.2 t ht)
  have:=hs t ht
  omega)
 have h4:(c.args.map Co).length * (6000000+3)≤6 * (6000000+3):=Ak _ (by simpa using h.1.2)
 omega
theorem gX {d:DE} (h:G6 d=true) (hs:∀c∈d.cons,∀t∈c.args,t.size≤100000):(Th d).length≤400000000:=by
 simp only [G6,AM,decide_eq_true_eq,A6] at h
 obtain ⟨⟨⟨⟨⟨h1,h2⟩,h3⟩,h4⟩,h5⟩,h6⟩:=h
 rw [Th]
 have g1:=Oa h1
 have g2:=O9 d.vars
 have g3:JL d.vars≤d.vars.length * 27:=ZM (fun x hx=>Hl (h3 x hx))
 have g4:d.vars.length * 27≤6 * 27:=Ak _ h2
 have g5:=S2 (sep:=[32,124,32]) (by decide) (d.cons.map fmtC)
 have g6:JL (d.cons.map fmtC)≤(d.cons.map fmtC).length * (40000000+3):=ZM (fun x hx=>by
  obtain ⟨t,ht,rfl⟩:=LM.1 hx
  exact mJ (h6 t ht) (hs t ht))
 have g7:(d.cons.map fmtC).length * (40000000+3)≤8 * (40000000+3):=Ak _ (by simpa using h5)
 simp only [AA,AD,AG]
 omega
theorem mK {f:FE} (h:Ml f=true) (hb:f.body.nb) (hs:f.body.size≤600):(VH f).length≤1000000:=by
 simp only [Ml,AM,decide_eq_true_eq,A6] at h
 rw [VH]
 have g1:=Hl h.1.1
 have g2:=Rp f.params
 have g3:JL f.params≤f.params.length * 27:=ZM (fun x hx=>Hl (h.2 x hx))
 have g4:f.params.length * 27≤6 * 27:=Ak _ h.1.2
 have g5:=aT f.body hb
 simp only [AA,AD,AG]
 omega
theorem tA {p:Pg} (h:Cw p=true) (hs:∀d∈p.data,∀c∈d.cons,∀t∈c.args,t.size≤100000):(Ys p).length≤10000000000:=by
 obtain ⟨⟨h1,h2⟩,h3,h4⟩:=Vz h
 rw [Ys,AA]
 have g1:=VO Th 400000000 p.data (fun d hd=>gX (h2 d hd) (hs d hd))
 have g2:=VO VH 1000000 p.RX (fun f hf=>mK (h4 f hf).1 (h4 f hf).2.1 (h4 f hf).2.2)
 have g3:p.data.length * 400000000≤12 * 400000000:=Ak _ h1
 have g4:p.RX.length * 1000000≤24 * 1000000:=Ak _ h3
 omega
end Go.Ab
