/- The printer: expressions. Lengths of texts. Conditions: none. -/
import Derived.Lib.ItoaLen
import Derived.Test.YtifplkldbbcldaaGreatDoorXRe
set_option linter.unusedSimpArgs false
set_option linter.unusedVariables false
set_option maxRecDepth 4000
set_option maxHeartbeats 8000000
open List renaming all_eq_true→A5,mem_cons→Bv,mem_map→Gl,take_of_length_le→Ad,map_cons→AF,map_nil→AI,length_cons→AD,length_append→AA,length_nil→AG,append_assoc→AS,cons_append→AY,nil_append→A6,append_nil→A1,mem_cons_of_mem→Ai,mem_cons_self→Aa,getElem?_cons_zero→Cu,length_map→AE,flatten_cons→Ck,length_eq_zero_iff→XH
open Int renaming reduceBEq→A3,toNat_zero→OP
open Bool renaming and_eq_true→AL,or_eq_true→BM,false_eq_true→AU
open Option renaming bind_some→B3,bind_eq_bind→AT,bind_eq_some_iff→AB,isSome_iff_exists→WY
open Nat renaming succ_mul→LU,mul_le_mul_right→Ak
namespace Go.Ab
open Go.Proofs
theorem ltI (a b:Nat):decide ((a:Int) < (b:Int))=decide (a < b):=decide_eq_decide.2 (by omega)
theorem eqS (n:Nat):(((n+1:Nat):Int)==0)=false:=Cb (by omega)
theorem sN (f:Ex) (l:List Ex):cC (List.map Ex.enc (f::l)) (some (.d (.int .i64 1))) none none 6=some (.d (.sl (l.map Ex.enc))):=by
 simp [cC,W0,Uq]
 refine ⟨?_,?_⟩
 · rw [jG,A5]
   intro r hr
   rw [beq_iff_eq]
   rcases Bv.1 hr with rfl|hr
   · obtain ⟨o,n,u,ns,ks,al⟩:=f;rfl
   · obtain ⟨x,_,rfl⟩:=Gl.1 hr
     obtain ⟨o,n,u,ns,ks,al⟩:=x;rfl
 · rw [Ad (by simp)]
set_option maxHeartbeats 8000000 in
theorem Zj {i:Nat} {o:Int} {n:Str} {u:Int} {ns:List Str} {ks:List Ex} {al:List Al} (hn:GS o n u ns ks.length al=true)
 (hk:∀x∈ks,∀lev,EC i x lev)
 (ha:∀x∈al,∀j,WX (fun σ=>σ.blk j=some [.gp i 0]) 143 ([]++[alA x]++[.gp j 0]) i (Mh x)) (lev:Nat) (hlv0:¬lvl (.mk o n u ns ks al) < lev):EC i (.mk o n u ns ks al) lev:=by
 have hko:∀x∈ks,WC 139 [.gp i 0,exA x] i (BA x):=fun x hx=>bR (hk x hx 0)
 intro σ0 σ s hH hb0 hlen
 rw [pl,if_neg hlv0] at hlen ⊢
 have hlv:=dW (.mk o n u ns ks al) σ
 have hlt:decide (lvl (.mk o n u ns ks al) < lev)=false:=decide_eq_false hlv0
 refine Ju (by simp) ?_
 rw [H9]
 by_cases ho:kS o
 · have hl:=uZ hn ho hko ha
   simp only [exA,Ex.A0,AF,AI] at hlv hl ⊢
   generalize lvl (.mk o n u ns ks al)=lv at hlv hlt
   generalize BA (.mk o n u ns ks al)=txt at hl hlen ⊢
   rcases ho with rfl|rfl|rfl|rfl|rfl|rfl
   all_goals (repeat' (first|refine Run.ct rfl ?_|((first|refine Run.reg mixed ?_|refine Run.AJ ?_|(refine AH.mk rfl (hl σ0 σ _ hH hb0 (by (try simp only [AD,AA,AG] at hlen ⊢);omega)) ?_;rintro _ σ1 ⟨rfl,hb1⟩)|refine AH.det (hlv) ?_|(refine AR rfl (fun h=>?_) (fun h=>?_)<;>try (cases h;done)))<;>try simp -implicitDefEqProofs only [A3,ltI,hlt,go_sem])|(refine ⟨fun h=>?_,fun h=>?_⟩<;>first|(cases h;done)|try simp only [h])|fail))
   all_goals try simp only [AS,AY,A6,A1] at hb1 ⊢
   all_goals exact Run.fin Bd rfl (fun _ _ h=>h) (AN.le_refl _) ⟨rfl,hb1⟩
 by_cases h13:o=13
 · subst h13
   have hn':=hn
   simp only [GS,AL] at hn'
   obtain ⟨⟨⟨⟨hnm,hnu⟩,hns⟩,has⟩,hnk⟩:=hn'
   simp [nuB] at hnu
   obtain ⟨a,b,rfl⟩:=Sx (by simpa [nkB] using hnk)
   have hka:=hk a (by simp) (plL u)
   have hkb:=hk b (by simp) (plR u)
   have hpl:=Vb u σ
   have e:BA (.mk 13 n u ns [a,b] al)=pl (plL u) a (BA a)++([32]++(opT u++([32]++pl (plR u) b (BA b)))):=by
    rw [BA,MW];rfl
   rw [e] at hlen ⊢
   clear e
   unfold EC at hka hkb
   generalize pl (plL u) a (BA a)=ta at *
   generalize pl (plR u) b (BA b)=tb at *
   obtain ⟨oa,na,ua,nsa,ksa,ala⟩:=a
   obtain ⟨ob,nb,ub,nsb,ksb,alb⟩:=b
   simp only [exA,Ex.A0,AF,AI] at hka hkb hlv ⊢
   generalize lvl _=lv at hlv hlt
   have hlen2:=hlen
   simp only [AD,AA,AG] at hlen2
   have ha1:=Fe (a:=[32]) (b:=opT u) (by simp only [AD,AG];omega)
   have ha2:=Fe (a:=[32]++opT u) (b:=[32]) (by simp only [AA,AD,AG];omega)
   simp only [AY,A6] at ha1 ha2
   have hot:=fun σ=>QZ u σ ⟨hnu.1,hnu.2⟩
   (repeat' (first|refine Run.ct rfl ?_|((first|refine Run.reg mixed ?_|refine Run.AJ ?_|(refine AH.mk rfl (hka σ0 σ _ hH hb0 (by (try simp only [AD,AA,AG] at hlen ⊢);omega)) ?_;rintro _ σ1 ⟨rfl,hb1⟩)|refine AH.det (hlv) ?_|refine AH.det (hpl) ?_|(refine AR rfl (fun h=>?_) (fun h=>?_)<;>try (cases h;done)))<;>try simp -implicitDefEqProofs only [A3,ltI,hlt,ha1,ha2,go_sem])|(refine ⟨fun h=>?_,fun h=>?_⟩<;>first|(cases h;done)|try simp only [h])|fail))
   (repeat' (first|refine Run.ct rfl ?_|((first|refine Run.reg mixed ?_|refine Run.AJ ?_|(refine AH.mk rfl (A4 _ hb1 (by (try simp only [AD,AA,AG] at hlen ⊢);omega)) ?_;rintro _ σ2 ⟨rfl,hb2⟩)|refine AH.det (hot _) ?_|(refine AR rfl (fun h=>?_) (fun h=>?_)<;>try (cases h;done)))<;>try simp -implicitDefEqProofs only [A3,ltI,hlt,ha1,ha2,go_sem])|(refine ⟨fun h=>?_,fun h=>?_⟩<;>first|(cases h;done)|try simp only [h])|fail))
   (repeat' (first|refine Run.ct rfl ?_|((first|refine Run.reg mixed ?_|refine Run.AJ ?_|(refine AH.mk rfl (hkb σ0 σ2 _ hH hb2 (by (try simp only [AD,AA,AG] at hlen ⊢);omega)) ?_;rintro _ σ3 ⟨rfl,hb3⟩)|(refine AR rfl (fun h=>?_) (fun h=>?_)<;>try (cases h;done)))<;>try simp -implicitDefEqProofs only [A3,ltI,hlt,ha1,ha2,go_sem])|(refine ⟨fun h=>?_,fun h=>?_⟩<;>first|(cases h;done)|try simp only [h])|fail))
   try simp only [AS,AY,A6,A1] at hb3 ⊢
   exact Run.fin Bd rfl (fun _ _ h=>h) (AN.le_refl _) ⟨rfl,hb3⟩
 by_cases h12:o=12
 · subst h12
   have hn':=hn
   simp only [GS,AL] at hn'
   obtain ⟨⟨⟨⟨hnm,hnu⟩,hns⟩,has⟩,hnk⟩:=hn'
   cases ks with
   |nil=>simp [nkB] at hnk
   |cons f l=>
   have hli:=kR (i:=i) (ks:=l) (fun x hx=>hko x (Ai _ hx))
   have hf4:=hk f (Aa ..) 4
   have hfp:=Oh (hko f (Aa ..))
   have e:BA (.mk 12 n u ns (f::l) al)=(if M3 f then JT (BA f) else pl 4 f (BA f))++Ij (l.map BA):=by
    rw [BA,MW];rfl
   rw [e] at hlen ⊢
   clear e
   unfold EC at hf4
   have hsl:cC (List.map Ex.enc (f::l)) (some (.d (.int .i64 1))) none none 6=some (.d (.sl (l.map Ex.enc))):=sN f l
   generalize hpp:JT (BA f)=tp at *
   generalize pl 4 f (BA f)=tq at *
   clear hpp
   obtain ⟨of,nf,uf,nsf,ksf,alf⟩:=f
   simp only [exA,Ex.A0,AF,AI] at hf4 hfp hlv hsl ⊢
   generalize lvl _=lv at hlv hlt
   by_cases h6:of=6
   · subst h6
     cases ksf with
     |nil=>
      have hbc:M3 (.mk 6 nf uf nsf [] alf)=true:=rfl
      rw [hbc,if_pos rfl] at hlen ⊢
      simp only [AI] at hf4 hfp hlv hsl ⊢
      (repeat' (first|refine Run.ct rfl ?_|((first|refine Run.reg mixed ?_|refine Run.AJ ?_|(refine AH.mk rfl (hfp σ0 σ _ hH hb0 (by (try simp only [AD,AA,AG] at hlen ⊢);omega)) ?_;rintro _ σ1 ⟨rfl,hb1⟩)|refine AH.det (hlv) ?_|(refine AR rfl (fun h=>?_) (fun h=>?_)<;>try (cases h;done)))<;>try simp -implicitDefEqProofs only [A3,ltI,hlt,hsl,Int.le_refl,if_true,OP,Cu,B3,AD,AG,go_sem])|(refine ⟨fun h=>?_,fun h=>?_⟩<;>first|(cases h;done)|try simp only [h])|fail))
      (repeat' (first|refine Run.ct rfl ?_|((first|refine Run.reg mixed ?_|refine Run.AJ ?_|(refine AH.mk rfl (hli σ0 σ1 _ hH hb1 (by (try simp only [AD,AA,AG] at hlen ⊢);omega)) ?_;rintro _ σ2 ⟨rfl,hb2⟩)|(refine AR rfl (fun h=>?_) (fun h=>?_)<;>try (cases h;done)))<;>try simp -implicitDefEqProofs only [A3,ltI,hlt,hsl,Int.le_refl,if_true,OP,Cu,B3,AD,AG,go_sem])|(refine ⟨fun h=>?_,fun h=>?_⟩<;>first|(cases h;done)|try simp only [h])|fail))
      try simp only [AS,AY,A6,A1] at hb2 ⊢
      exact Run.fin Bd rfl (fun _ _ h=>h) (AN.le_refl _) ⟨rfl,hb2⟩
     |cons k1 l1=>
      have hbc:M3 (.mk 6 nf uf nsf (k1::l1) alf)=false:=rfl
      rw [hbc,if_neg (by decide)] at hlen ⊢
      simp only [AF] at hf4 hfp hlv hsl ⊢
      (repeat' (first|refine Run.ct rfl ?_|((first|refine Run.reg mixed ?_|refine Run.AJ ?_|(refine AH.mk rfl (hf4 σ0 σ _ hH hb0 (by (try simp only [AD,AA,AG] at hlen ⊢);omega)) ?_;rintro _ σ1 ⟨rfl,hb1⟩)|refine AH.det (hlv) ?_|(refine AR rfl (fun h=>?_) (fun h=>?_)<;>try (cases h;done)))<;>try simp -implicitDefEqProofs only [A3,ltI,hlt,hsl,Int.le_refl,if_true,OP,Cu,B3,AD,AG,eqS,AE,go_sem])|(refine ⟨fun h=>?_,fun h=>?_⟩<;>first|(cases h;done)|try simp only [h])|fail))
      (repeat' (first|refine Run.ct rfl ?_|((first|refine Run.reg mixed ?_|refine Run.AJ ?_|(refine AH.mk rfl (hli σ0 σ1 _ hH hb1 (by (try simp only [AD,AA,AG] at hlen ⊢);omega)) ?_;rintro _ σ2 ⟨rfl,hb2⟩)|(refine AR rfl (fun h=>?_) (fun h=>?_)<;>try (cases h;done)))<;>try simp -implicitDefEqProofs only [A3,ltI,hlt,hsl,Int.le_refl,if_true,OP,Cu,B3,AD,AG,eqS,AE,go_sem])|(refine ⟨fun h=>?_,fun h=>?_⟩<;>first|(cases h;done)|try simp only [h])|fail))
      try simp only [AS,AY,A6,A1] at hb2 ⊢
      exact Run.fin Bd rfl (fun _ _ h=>h) (AN.le_refl _) ⟨rfl,hb2⟩
   · have hbc:M3 (.mk of nf uf nsf ksf alf)=false:=by show (of==6&&_)=false;rw [Cb h6];rfl
     rw [hbc,if_neg (by decide)] at hlen ⊢
     (repeat' (first|refine Run.ct rfl ?_|((first|refine Run.reg mixed ?_|refine Run.AJ ?_|(refine AH.mk rfl (hf4 σ0 σ _ hH hb0 (by (try simp only [AD,AA,AG] at hlen ⊢);omega)) ?_;rintro _ σ1 ⟨rfl,hb1⟩)|refine AH.det (hlv) ?_|(refine AR rfl (fun h=>?_) (fun h=>?_)<;>try (cases h;done)))<;>try simp -implicitDefEqProofs only [A3,ltI,hlt,hsl,Int.le_refl,if_true,OP,Cu,B3,AD,AG,Cb h6,go_sem])|(refine ⟨fun h=>?_,fun h=>?_⟩<;>first|(cases h;done)|try simp only [h])|fail))
     (repeat' (first|refine Run.ct rfl ?_|((first|refine Run.reg mixed ?_|refine Run.AJ ?_|(refine AH.mk rfl (hli σ0 σ1 _ hH hb1 (by (try simp only [AD,AA,AG] at hlen ⊢);omega)) ?_;rintro _ σ2 ⟨rfl,hb2⟩)|(refine AR rfl (fun h=>?_) (fun h=>?_)<;>try (cases h;done)))<;>try simp -implicitDefEqProofs only [A3,ltI,hlt,hsl,Int.le_refl,if_true,OP,Cu,B3,AD,AG,Cb h6,go_sem])|(refine ⟨fun h=>?_,fun h=>?_⟩<;>first|(cases h;done)|try simp only [h])|fail))
     try simp only [AS,AY,A6,A1] at hb2 ⊢
     exact Run.fin Bd rfl (fun _ _ h=>h) (AN.le_refl _) ⟨rfl,hb2⟩
 have hn':=hn
 simp only [GS,AL] at hn'
 obtain ⟨⟨⟨⟨hnm,hnu⟩,hns⟩,has⟩,hnk⟩:=hn'
 have hop:=kU hnk
 have hpo:rZ o:=by unfold rZ;unfold kS at ho;omega
 have hl:=r7 hn hpo hko
 simp only [exA,Ex.A0,AF,AI] at hlv hl ⊢
 generalize lvl (.mk o n u ns ks al)=lv at hlv hlt
 generalize BA (.mk o n u ns ks al)=txt at hl hlen ⊢
 simp only [kS,not_or] at ho
 obtain ⟨h1,h2,h3,h4,h5,h6⟩:=ho
 (repeat' (first|refine Run.ct rfl ?_|((first|refine Run.reg mixed ?_|refine Run.AJ ?_|(refine AH.mk rfl (hl σ0 σ _ hH hb0 (by (try simp only [AD,AA,AG] at hlen ⊢);omega)) ?_;rintro _ σ1 ⟨rfl,hb1⟩)|refine AH.det (hlv) ?_|(refine AR rfl (fun h=>?_) (fun h=>?_)<;>try (cases h;done)))<;>try simp -implicitDefEqProofs only [A3,ltI,hlt,Cb h1,Cb h2,Cb h3,Cb h4,Cb h5,Cb h6,Cb h12,Cb h13,go_sem])|(refine ⟨fun h=>?_,fun h=>?_⟩<;>first|(cases h;done)|try simp only [h])|fail))
 try simp only [AS,AY,A6,A1] at hb1 ⊢
 exact Run.fin Bd rfl (fun _ _ h=>h) (AN.le_refl _) ⟨rfl,hb1⟩
theorem mF {i:Nat} {o:Int} {n:Str} {u:Int} {ns:List Str} {ks:List Ex} {al:List Al} (hn:GS o n u ns ks.length al=true)
 (hk:∀x∈ks,∀lev,EC i x lev)
 (ha:∀x∈al,∀j,WX (fun σ=>σ.blk j=some [.gp i 0]) 143 ([]++[alA x]++[.gp j 0]) i (Mh x)) (lev:Nat):EC i (.mk o n u ns ks al) lev:=by
 by_cases hlv0:lvl (.mk o n u ns ks al) < lev
 · have hpa:=Oh (bR (Zj hn hk ha 0 (by omega)))
   intro σ0 σ s hH hb0 hlen
   rw [pl,if_pos hlv0] at hlen ⊢
   have hlv:=dW (.mk o n u ns ks al) σ
   have hlt:decide (lvl (.mk o n u ns ks al) < lev)=true:=decide_eq_true hlv0
   refine Ju (by simp) ?_
   rw [H9]
   simp only [exA,Ex.A0,AF,AI] at hlv hpa ⊢
   generalize lvl (.mk o n u ns ks al)=lv at hlv hlt
   generalize JT (BA (.mk o n u ns ks al))=txt at hpa hlen ⊢
   (repeat' (first|refine Run.ct rfl ?_|((first|refine Run.reg mixed ?_|refine Run.AJ ?_|(refine AH.mk rfl (hpa σ0 σ _ hH hb0 (by (try simp only [AD,AA,AG] at hlen ⊢);omega)) ?_;rintro _ σ1 ⟨rfl,hb1⟩)|refine AH.det (hlv) ?_|(refine AR rfl (fun h=>?_) (fun h=>?_)<;>try (cases h;done)))<;>try simp -implicitDefEqProofs only [ltI,hlt,go_sem])|(refine ⟨fun h=>?_,fun h=>?_⟩<;>first|(cases h;done)|try simp only [h])|fail))
   exact Run.GG Bd (AN.le_refl _) ⟨rfl,hb1⟩
 · exact Zj hn hk ha lev hlv0
mutual
theorem aX (i:Nat):∀(e:Ex),e.nb→∀lev,EC i e lev
 | .mk o n u ns ks al,h,lev=>by
  rw [Ex.nb] at h
  exact mF h.1 (dE i ks h.2.1) (j2 i al h.2.2) lev
theorem dE (i:Nat):∀(l:List Ex),Ex.nbs l→∀x∈l,∀lev,EC i x lev
 |[],_,x,hx,_=>by cases hx
 |e::l,h,x,hx,lev=>by
  rw [Ex.nbs] at h
  rcases Bv.1 hx with hxe|hx
  · rw [hxe];exact aX i e h.1 lev
  · exact dE i l h.2 x hx lev
theorem j2 (i:Nat):∀(l:List Al),Al.nbs l→∀x∈l,∀j,WX (fun σ=>σ.blk j=some [.gp i 0]) 143 ([]++[alA x]++[.gp j 0]) i (Mh x)
 |[],_,x,hx,_=>by cases hx
 | .mk c vs b::l,h,x,hx,j=>by
  rw [Al.nbs,Al.nb] at h
  rcases Bv.1 hx with hxe|hx
  · rw [hxe];exact x9 j (bR (aX i b h.1 0))
  · exact j2 i l h.2 x hx j
end
end Go.Ab
namespace Go.Ab
theorem Hr {s:Str} (h:D1 s=true):s.length≤24:=by
 obtain ⟨b,r,rfl,_,_,h3,h4⟩:=Xz h
 first|exact h3|exact h4|omega
theorem Od {s:Str} (h:upperB s=true):s.length≤24:=by
 obtain ⟨b,r,rfl,_,_,h4⟩:=Vs h
 exact h4
theorem Ui {s:Str} (h:GK s=true):(shown s).length≤24:=by
 rw [shown]
 split
 · simp
 · rename_i hs
   simp only [GK,BM,beq_iff_eq] at h
   exact Hr (h.resolve_left hs)
def JL (l:List Str):Nat:=Dz (fun x=>x.length+3) l
theorem G8 (x:Str) (l:List Str):JL (x::l)=x.length+3+JL l:=by simp [JL,Dz]
theorem kI (sep:Str) (hs:sep.length≤3):∀l:List Str,(Lib.joinTail sep l).length≤JL l
 |[]=>by simp [Lib.joinTail,JL,Dz]
 |x::l=>by
  have:=kI sep hs l
  rw [G8]
  simp only [Lib.joinTail,AF,Ck,AA] at this ⊢
  omega
theorem S7 {sep:Str} (hs:sep.length≤3) (l:List Str):(Lib.join l sep).length≤JL l:=by
 cases l with
 |nil=>simp [Lib.join_nil]
 |cons x l=>
  rw [Lib.join_cons,G8,AA]
  have:=kI sep hs l
  omega
theorem Oc (l:List Str):(Ik l).length≤2+JL l:=by
 rw [Ik]
 split
 · simp
 · have:=S7 (sep:=[44,32]) (by decide) l
   simp only [JT,cms,AD,AA,AG];omega
theorem Rt (l:List Str):(Ij l).length≤2+JL l:=by
 have:=S7 (sep:=[44,32]) (by decide) l
 simp only [Ij,JT,cms,AD,AA,AG];omega
theorem Z3 {l:List Str} {N:Nat} (h:∀x∈l,x.length≤N):JL l≤l.length * (N+3):=by
 induction l with
 |nil=>simp [JL,Dz]
 |cons x l ih=>
  rw [G8,AD,LU]
  have h1:=h x (Aa ..)
  have h2:=ih (fun y hy=>h y (Ai _ hy))
  omega
theorem xL {α:Type} (f:α→Str) (μ:α→Nat) (l:List α) (h:∀x∈l,(f x).length+3≤μ x):JL (l.map f)≤Dz μ l:=by
 induction l with
 |nil=>simp [JL,Dz]
 |cons x l ih=>
  rw [AF,G8]
  have h1:=h x (Aa ..)
  have h2:=ih (fun y hy=>h y (Ai _ hy))
  simp only [Dz,AF,List.sum_cons] at h2 ⊢
  omega
theorem sU {α:Type} (c:Nat) (μ:α→Nat) (l:List α):Dz (fun x=>c * μ x) l=c * Dz μ l:=by
 induction l with
 |nil=>simp [Dz]
 |cons x l ih=>simp only [Dz,AF,List.sum_cons,Nat.mul_add] at ih ⊢;omega
theorem Zo:∀l:List Str,JL l.dropLast+(l.getLastD []).length≤JL l
 |[]=>by simp [JL,Dz]
 |[x]=>by simp [JL,Dz]
 |x::y::l=>by
  have:=Zo (y::l)
  rw [List.dropLast_cons_cons,G8,G8]
  have e:(x::y::l).getLastD []=(y::l).getLastD []:=by simp
  rw [e];omega
theorem sL {k:Int} {n:Str} {q:Nat} (h:Ct k n q=true):n.length≤24:=by
 unfold Ct at h
 repeat' (split at h)
 all_goals simp only [AL,beq_iff_eq,AU] at h
 all_goals first|exact Hr h.1|exact Od h.1|(have:=h.1;subst this;simp)|(have:=h.1.1;subst this;simp)
theorem qL {k:Int} {n:Str} (hn:n.length≤24) (ts:List Str):(tyN k n ts).length≤40+JL ts:=by
 have h1:=Oc ts
 have h2:=Rt ts.dropLast
 have h3:=Zo ts
 unfold tyN
 repeat' split
 all_goals simp only [AA,AD,AG]
 all_goals omega
theorem dS:∀(d:Nat) (t:TE),Bo d t=true→(Cv t).length+3≤60 * t.size
 |0,t,h=>by simp [Bo] at h
 |d+1,.mk k n l,h=>by
  rw [Bo,AL,A5] at h
  rw [Cv,P5,TE.size,PG]
  have h1:=qL (k:=k) (sL h.1) (l.map Cv)
  have h2:=xL Cv (fun t=>60 * t.size) l (fun x hx=>dS d x (h.2 x hx))
  rw [sU] at h2
  omega
theorem vI {o:Int} {n:Str} (h:nmB o n=true):n.length≤24∧(shown n).length≤24:=by
 unfold nmB at h
 have hs:n.length≤24→(shown n).length≤24:=fun h=>by rw [shown];split<;>simp_all
 repeat' (split at h)
 · exact ⟨Hr h,hs (Hr h)⟩
 · exact ⟨Od h,hs (Od h)⟩
 · refine ⟨?_,Ui h⟩
   simp only [GK,BM,beq_iff_eq] at h
   rcases h with rfl|h
   · simp
   · exact Hr h
 · simp only [beq_iff_eq] at h;subst h;exact ⟨by simp,by decide⟩
theorem vP {o:Int} {ns:List Str} (h:nsB o ns=true):JL (ns.map shown)≤162∧JL ns≤162:=by
 have key:∀m:List Str,m.length≤6→(∀x∈m,x.length≤24)→JL m≤162:=fun m h1 h2=>by
  have:=Z3 h2
  have:m.length * 27≤6 * 27:=Ak _ h1
  omega
 have hb:∀s:Str,GK s=true→s.length≤24:=fun s h=>by
  simp only [GK,BM,beq_iff_eq] at h
  rcases h with rfl|h
  · simp
  · exact Hr h
 have hnb:∀s:Str,D1 s=true→GK s=true:=fun s h=>by simp [GK,h]
 unfold nsB at h
 split at h
 · simp only [AL,decide_eq_true_eq,A5] at h
   refine ⟨key _ (by simpa using h.1.2) (fun x hx=>?_),key _ h.1.2 (fun x hx=>hb x (h.2 x hx))⟩
   obtain ⟨y,hy,rfl⟩:=Gl.1 hx
   exact Ui (h.2 y hy)
 · split at h
   · simp only [AL,decide_eq_true_eq,A5] at h
     refine ⟨key _ (by simpa using h.1) (fun x hx=>?_),key _ h.1 (fun x hx=>Hr (h.2 x hx))⟩
     obtain ⟨y,hy,rfl⟩:=Gl.1 hx
     exact Ui (hnb y (h.2 y hy))
   · rw [decide_eq_true_eq,XH] at h
     subst h;simp [JL,Dz]
theorem qH {c:Str} {vs:List Str} {b:Ex} (h:M2 (.mk c vs b)=true):(Mh (.mk c vs b)).length≤200+(BA b).length:=by
 simp only [M2,AL,decide_eq_true_eq,A5] at h
 rw [Mh,alT]
 have h1:=Od h.1.1
 have h2:=Oc (vs.map shown)
 have h3:JL (vs.map shown)≤(vs.map shown).length * 27:=Z3 (fun x hx=>by obtain ⟨y,hy,rfl⟩:=Gl.1 hx;exact Ui (h.2 y hy))
 have h4:(vs.map shown).length * 27≤6 * 27:=Ak _ (by simpa using h.1.2)
 simp only [AA,AD,AG]
 omega
theorem uJ (l:List Str):(at0 l 0).length+JL l.tail≤JL l:=by
 cases l with
 |nil=>simp [at0,JL,Dz]
 |cons x l=>
  rw [G8]
  show x.length+JL l≤_
  omega
theorem dP (l:List Str):(at0 l 0).length+(at0 l 1).length+(at0 l 2).length≤JL l:=by
 match l with
 |[]=>simp [at0,JL,Dz]
 |[x]=>simp [at0,JL,Dz]
 |[x,y]=>
  rw [G8,G8]
  show x.length+y.length+0≤_
  omega
 |x::y::z::l=>
  rw [G8,G8,G8]
  show x.length+y.length+z.length≤_
  omega
theorem bI (d:Nat) (k:Ex) (t:Str):(pl d k t).length≤2+t.length:=by
 rw [pl];split
 · simp only [JT,AD,AA,AG];omega
 · omega
theorem dR (t:Str):(JT t).length≤2+t.length:=by simp only [JT,AD,AA,AG];omega
theorem qI (ks:List Ex) (ts:List Str):(yD ks ts).length≤8+JL ts:=by
 unfold yD
 have h1:=Rt ts.tail
 have h2:=uJ ts
 split
 · omega
 · have h3:=dR (at0 ts 0)
   rename_i k _
   have h4:=bI 4 k (at0 ts 0)
   rw [AA]
   split<;>omega
theorem qK (u:Int):(opT u).length≤10:=by
 unfold opT Us
 split<;>decide
theorem qJ (u:Int) (ks:List Ex) (ts:List Str):(yH u ks ts).length≤20+JL ts:=by
 unfold yH
 have h2:=dP ts
 have h3:=qK u
 split
 · rename_i a b
   have h4:=bI (if Ee u=1 then 2 else Ee u) a (at0 ts 0)
   have h5:=bI (if Ee u=1 then 2 else Ee u+1) b (at0 ts 1)
   simp only [AA,AD]
   omega
 · simp
theorem uM (u:Int):(prT u).length≤10:=by
 unfold prT
 repeat' split
 all_goals decide
theorem uL {o u:Int} (h:nuB o u=true):(Lib.itoa u).length≤21:=by
 refine Lib.itoa_length_le u ?_ ?_
 all_goals
  unfold nuB at h
  repeat' (split at h)
  all_goals simp only [AL,decide_eq_true_eq,beq_iff_eq] at h
  all_goals omega
theorem uK {o:Int} {n:Str} {u:Int} {ns:List Str} (hn:nmB o n=true) (hu:nuB o u=true) (hs:nsB o ns=true) (ks:List Ex) (ts as':List Str):(P0 o n u ns ks ts as').length≤250+JL ts+JL as':=by
 obtain ⟨h1,h2⟩:=vI hn
 obtain ⟨h3,h4⟩:=vP hs
 have h5:=Oc ts
 have h6:=Rt ts
 have h7:=dP ts
 have h8:=qI ks ts
 have h9:=qJ u ks ts
 have h10:=uM u
 have h11:=uL hu
 have h12:=dR (Lib.itoa u)
 have h13:=Oc (ns.map shown)
 have h14:=Rt ns
 have h15:=S7 (sep:=[32,124,32]) (by decide) as'
 unfold P0
 by_cases h:o=7
 · rw [if_pos h];try simp only [AA,AD,AG]
   omega
 rw [if_neg h];clear h
 by_cases h:o=8
 · rw [if_pos h];try simp only [AA,AD,AG]
   omega
 rw [if_neg h];clear h
 by_cases h:o=9
 · rw [if_pos h];try simp only [AA,AD,AG]
   omega
 rw [if_neg h];clear h
 by_cases h:o=10
 · rw [if_pos h];try simp only [AA,AD,AG]
   omega
 rw [if_neg h];clear h
 by_cases h:o=11
 · rw [if_pos h];try simp only [AA,AD,AG]
   omega
 rw [if_neg h];clear h
 by_cases h:o=17
 · rw [if_pos h];try simp only [AA,AD,AG]
   omega
 rw [if_neg h];clear h
 by_cases h:o=13
 · rw [if_pos h];try simp only [AA,AD,AG]
   omega
 rw [if_neg h];clear h
 by_cases h:o=12
 · rw [if_pos h];try simp only [AA,AD,AG]
   omega
 rw [if_neg h];clear h
 by_cases h:o=1
 · rw [if_pos h];try simp only [AA,AD,AG]
   omega
 rw [if_neg h];clear h
 by_cases h:o=2
 · rw [if_pos h];split<;>(simp only [AD,AG];omega)
 rw [if_neg h];clear h
 by_cases h:o=3
 · rw [if_pos h];try simp only [AA,AD,AG]
   omega
 rw [if_neg h];clear h
 by_cases h:o=5
 · rw [if_pos h];try simp only [AA,AD,AG]
   omega
 rw [if_neg h];clear h
 by_cases h:o=14
 · rw [if_pos h];try simp only [AA,AD,AG]
   omega
 rw [if_neg h];clear h
 by_cases h:o=16
 · rw [if_pos h];try simp only [AA,AD,AG]
   omega
 rw [if_neg h];clear h
 by_cases h:o=15
 · rw [if_pos h];try simp only [AA,AD,AG]
   omega
 rw [if_neg h];clear h
 rw [AA];omega
mutual
theorem bH:∀(e:Ex),e.nb→(BA e).length+250≤800 * e.size
 | .mk o n u ns ks al,h=>by
  rw [Ex.nb] at h
  have hn:=h.1
  simp only [GS,AL] at hn
  obtain ⟨⟨⟨⟨hnm,hnu⟩,hns⟩,has⟩,hnk⟩:=hn
  rw [BA,Ex.size]
  have h1:=uK hnm hnu hns ks (WB ks) (Jl al)
  have h2:=dQ ks h.2.1
  have h3:=dO al h.2.2 (gA has)
  omega
theorem dQ:∀(l:List Ex),Ex.nbs l→JL (WB l)≤800 * Ex.BS l
 |[],_=>by simp [WB,JL,Dz]
 |e::l,h=>by
  rw [Ex.nbs] at h
  have h1:=bH e h.1
  have h2:=dQ l h.2
  rw [WB,G8,Ex.BS]
  omega
theorem dO:∀(l:List Al),Al.nbs l→(∀a∈l,M2 a=true)→JL (Jl l)≤800 * Al.BS l
 |[],_,_=>by simp [Jl,JL,Dz]
 | .mk c vs b::l,h,ha=>by
  rw [Al.nbs,Al.nb] at h
  have h1:=bH b h.1
  have h2:=dO l h.2 (fun a hx=>ha a (Ai _ hx))
  have h3:=qH (ha _ (Aa ..))
  rw [Jl,G8,Al.BS,Al.size]
  omega
end
theorem S6 {α:Type} {f:Nat→α→Option Nat} {μ:α→Nat}:∀(l:List α) (q r:Nat),(∀x∈l,∀a b,f a x=some b→μ x+b≤a)→l.foldlM f q=some r→Dz μ l+r≤q
 |[],q,r,_,h=>by
  simp only [List.foldlM_nil] at h
  cases h
  simp [Dz]
 |y::l,q,r,hf,h=>by
  rw [List.foldlM_cons,AT,AB] at h
  obtain ⟨b,hb,h⟩:=h
  have h1:=hf y (Aa ..) q b hb
  have h2:=S6 l b r (fun x hx=>hf x (Ai _ hx)) h
  simp only [Dz,AF,List.sum_cons] at h2 ⊢
  omega
theorem Zn:∀l:List Ex,Ex.BS l=Dz Ex.size l
 |[]=>rfl
 |e::l=>by rw [Ex.BS,Zn l];simp [Dz]
theorem Zm:∀l:List Al,Al.BS l=Dz Al.size l
 |[]=>rfl
 |e::l=>by rw [Al.BS,Zm l];simp [Dz]
theorem jR:∀(d q:Nat) (e:Ex) (r:Nat),vEx d q e=some r→e.size+r≤q
 |0,q,.mk ..,r,h=>by simp [vEx] at h
 |d+1,0,.mk ..,r,h=>by cases h
 |d+1,q+1,.mk o n u ns ks al,r,h=>by
  simp only [vEx] at h
  split at h
  · rw [AB] at h
    obtain ⟨c,hc,h⟩:=h
    have h1:=S6 (μ:=Ex.size) ks q c (fun x _ a b hab=>jR d a x b hab) hc
    have h2:=S6 (μ:=Al.size) al c r (fun x _ a b hab=>by
     obtain ⟨cc,vs,bd⟩:=x
     rw [Al.size]
     exact jR d a bd b hab) h
    rw [Ex.size,Zn,Zm]
    omega
  · cases h
theorem cJ {q r:Nat} {f:FE} (h:PL q f=some r):Mm f=true∧f.body.nb∧f.body.size+r≤q:=by
 unfold PL at h
 split at h
 · rename_i hh;exact ⟨hh,cI _ _ _ _ h,jR _ _ _ _ h⟩
 · cases h
theorem LO {p:Pg} (h:CW p=true):(p.data.length≤12∧∀d∈p.data,GP d=true)∧p.P6.length≤24∧∀f∈p.P6,Mm f=true∧f.body.nb∧f.body.size≤600:=by
 simp only [CW,AL,decide_eq_true_eq,A5] at h
 obtain ⟨⟨⟨h1,h2⟩,h3⟩,h4⟩:=h
 obtain ⟨r,hr⟩:=WY.1 h4
 have hs:=S6 (μ:=fun f=>f.body.size) p.P6 600 r (fun x _ a b hab=>(cJ hab).2.2) hr
 have ha:=OY (Q:=fun f=>Mm f=true∧f.body.nb) p.P6 600 r (fun x _ a b hab=>⟨(cJ hab).1,(cJ hab).2.1⟩) hr
 refine ⟨⟨h1,h3⟩,h2,fun f hf=>⟨(ha f hf).1,(ha f hf).2,?_⟩⟩
 have:=VD (μ:=fun f:FE=>f.body.size) hf
 omega
theorem V3 {α:Type} (f:α→Str) (N:Nat):∀l:List α,(∀x∈l,(f x).length≤N)→(l.map f).flatten.length≤l.length * N
 |[],_=>by simp
 |x::l,h=>by
  have h1:=h x (Aa ..)
  have h2:=V3 f N l (fun y hy=>h y (Ai _ hy))
  rw [AF,Ck,AA,AD,LU]
  omega
theorem nD {c:CE} (h:Q9 c=true) (hs:∀t∈c.args,t.size≤100000):(fmtC c).length≤40000000:=by
 simp only [Q9,AL,decide_eq_true_eq,A5] at h
 rw [fmtC,AA]
 have h1:=Od h.1.1
 have h2:=Oc (c.args.map Cv)
 have h3:JL (c.args.map Cv)≤(c.args.map Cv).length * (6000000+3):=Z3 (fun x hx=>by
  obtain ⟨t,ht,rfl⟩:=Gl.1 hx
  have:=dS 40 t (h.2 t ht)
  have:=hs t ht
  omega)
 have h4:(c.args.map Cv).length * (6000000+3)≤6 * (6000000+3):=Ak _ (by simpa using h.1.2)
 omega
theorem iC {d:DE} (h:GP d=true) (hs:∀c∈d.cons,∀t∈c.args,t.size≤100000):(Tr d).length≤400000000:=by
 simp only [GP,AL,decide_eq_true_eq,A5] at h
 obtain ⟨⟨⟨⟨⟨h1,h2⟩,h3⟩,h4⟩,h5⟩,h6⟩:=h
 rw [Tr]
 have g1:=Od h1
 have g2:=Oc d.vars
 have g3:JL d.vars≤d.vars.length * 27:=Z3 (fun x hx=>Hr (h3 x hx))
 have g4:d.vars.length * 27≤6 * 27:=Ak _ h2
 have g5:=S7 (sep:=[32,124,32]) (by decide) (d.cons.map fmtC)
 have g6:JL (d.cons.map fmtC)≤(d.cons.map fmtC).length * (40000000+3):=Z3 (fun x hx=>by
  obtain ⟨t,ht,rfl⟩:=Gl.1 hx
  exact nD (h6 t ht) (hs t ht))
 have g7:(d.cons.map fmtC).length * (40000000+3)≤8 * (40000000+3):=Ak _ (by simpa using h5)
 simp only [AA,AD,AG]
 omega
theorem nE {f:FE} (h:Mm f=true) (hb:f.body.nb) (hs:f.body.size≤600):(VW f).length≤1000000:=by
 simp only [Mm,AL,decide_eq_true_eq,A5] at h
 rw [VW]
 have g1:=Hr h.1.1
 have g2:=Rt f.params
 have g3:JL f.params≤f.params.length * 27:=Z3 (fun x hx=>Hr (h.2 x hx))
 have g4:f.params.length * 27≤6 * 27:=Ak _ h.1.2
 have g5:=bH f.body hb
 simp only [AA,AD,AG]
 omega
theorem uD {p:Pg} (h:CW p=true) (hs:∀d∈p.data,∀c∈d.cons,∀t∈c.args,t.size≤100000):(ZL p).length≤10000000000:=by
 obtain ⟨⟨h1,h2⟩,h3,h4⟩:=LO h
 rw [ZL,AA]
 have g1:=V3 Tr 400000000 p.data (fun d hd=>iC (h2 d hd) (hs d hd))
 have g2:=V3 VW 1000000 p.P6 (fun f hf=>nE (h4 f hf).1 (h4 f hf).2.1 (h4 f hf).2.2)
 have g3:p.data.length * 400000000≤12 * 400000000:=Ak _ h1
 have g4:p.P6.length * 1000000≤24 * 1000000:=Ak _ h3
 omega
end Go.Ab
