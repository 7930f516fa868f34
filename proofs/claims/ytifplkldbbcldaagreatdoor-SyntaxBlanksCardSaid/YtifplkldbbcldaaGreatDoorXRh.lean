/- The printer: expressions. Lengths of texts. Conditions: none. -/
import Derived.Lib.ItoaLen
import Derived.Test.YtifplkldbbcldaaGreatDoorXRe
set_option linter.unusedSimpArgs false
set_option linter.unusedVariables false
set_option maxRecDepth 4000
set_option maxHeartbeats 8000000
open List renaming all_eq_true→A4,mem_cons→Bm,mem_map→Ka,take_of_length_le→Ar,map_cons→AE,map_nil→AH,length_cons→AD,length_append→AA,length_nil→AF,append_assoc→AR,cons_append→AU,nil_append→A6,append_nil→A0,mem_cons_of_mem→Ae,mem_cons_self→A9,getElem?_cons_zero→Ca,length_map→AI,flatten_cons→C1
open Int renaming reduceBEq→A5,toNat_zero→NQ
open Bool renaming and_eq_true→AK,or_eq_true→BE,false_eq_true→AY
open Option renaming bind_some→B0,bind_eq_bind→AS,bind_eq_some_iff→AB,isSome_iff_exists→Ux
open Nat renaming succ_mul→Kb,mul_le_mul_right→Ai
namespace Go.Ab
open Go.Proofs
theorem ltI (a b:Nat):decide ((a:Int) < (b:Int))=decide (a < b):=decide_eq_decide.2 (by omega)
theorem eqS (n:Nat):(((n+1:Nat):Int)==0)=false:=EF (by omega)
theorem nV (f:Ex) (l:List Ex):ZB (List.map Ex.enc (f::l)) (some (.d (.int .i64 1))) none none 6=some (.d (.sl (l.map Ex.enc))):=by
 simp [ZB,Vn,UQ]
 refine ⟨?_,?_⟩
 · rw [dK,A4]
   intro r hr
   rw [beq_iff_eq]
   rcases Bm.1 hr with rfl|hr
   · obtain ⟨o,n,u,ns,ks,al⟩:=f;rfl
   · obtain ⟨x,_,rfl⟩:=Ka.1 hr
     obtain ⟨o,n,u,ns,ks,al⟩:=x;rfl
 · rw [Ar (by simp)]
set_option maxHeartbeats 8000000 in
theorem Xs {i:Nat} {o:Int} {n:Str} {u:Int} {ns:List Str} {ks:List Ex} {al:List Al} (hn:Gc o n u ns ks.length al=true)
 (hk:∀x∈ks,∀lev,EC i x lev)
 (ha:∀x∈al,∀j,WX (fun σ=>σ.blk j=some [.gp i 0]) 143 ([]++[alA x]++[.gp j 0]) i (Lv x)) (lev:Nat) (hlv0:¬lvl (.mk o n u ns ks al) < lev):EC i (.mk o n u ns ks al) lev:=by
 have hko:∀x∈ks,WC 139 [.gp i 0,exA x] i (Ax x):=fun x hx=>Yo (hk x hx 0)
 intro σ0 σ s hH hb0 hlen
 rw [pl,if_neg hlv0] at hlen ⊢
 have hlv:=Zm (.mk o n u ns ks al) σ
 have hlt:decide (lvl (.mk o n u ns ks al) < lev)=false:=decide_eq_false hlv0
 refine JU (by simp) ?_
 rw [II]
 by_cases ho:fG o
 · have hl:=pY hn ho hko ha
   simp only [exA,Ex.A3,AE,AH] at hlv hl ⊢
   generalize lvl (.mk o n u ns ks al)=lv at hlv hlt
   generalize Ax (.mk o n u ns ks al)=txt at hl hlen ⊢
   rcases ho with rfl|rfl|rfl|rfl|rfl|rfl
   all_goals (repeat' (first|refine Run.ct rfl ?_|((first|refine Run.reg mixed ?_|refine Run.AM ?_|(refine AG.mk rfl (hl σ0 σ _ hH hb0 (by (try simp only [AD,AA,AF] at hlen ⊢);omega)) ?_;rintro _ σ1 ⟨rfl,hb1⟩)|refine AG.det (hlv) ?_|(refine AQ rfl (fun h=>?_) (fun h=>?_)<;>try (cases h;done)))<;>try simp -implicitDefEqProofs only [A5,ltI,hlt,go_sem])|(refine ⟨fun h=>?_,fun h=>?_⟩<;>first|(cases h;done)|try simp only [h])|fail))
   all_goals try simp only [AR,AU,A6,A0] at hb1 ⊢
   all_goals exact Run.fin B6 rfl (fun _ _ h=>h) (AN.le_refl _) ⟨rfl,hb1⟩
 by_cases h13:o=13
 · subst h13
   have hn':=hn
   simp only [Gc,AK] at hn'
   obtain ⟨⟨⟨⟨hnm,hnu⟩,hns⟩,has⟩,hnk⟩:=hn'
   simp [nuB] at hnu
   obtain ⟨a,b,rfl⟩:=Re (by simpa [nkB] using hnk)
   have hka:=hk a (by simp) (plL u)
   have hkb:=hk b (by simp) (plR u)
   have hpl:=US u σ
   have e:Ax (.mk 13 n u ns [a,b] al)=pl (plL u) a (Ax a)++([32]++(opT u++([32]++pl (plR u) b (Ax b)))):=by
    rw [Ax,Le];rfl
   rw [e] at hlen ⊢
   clear e
   unfold EC at hka hkb
   generalize pl (plL u) a (Ax a)=ta at *
   generalize pl (plR u) b (Ax b)=tb at *
   obtain ⟨oa,na,ua,nsa,ksa,ala⟩:=a
   obtain ⟨ob,nb,ub,nsb,ksb,alb⟩:=b
   simp only [exA,Ex.A3,AE,AH] at hka hkb hlv ⊢
   generalize lvl _=lv at hlv hlt
   have hlen2:=hlen
   simp only [AD,AA,AF] at hlen2
   have ha1:=FQ (a:=[32]) (b:=opT u) (by simp only [AD,AF];omega)
   have ha2:=FQ (a:=[32]++opT u) (b:=[32]) (by simp only [AA,AD,AF];omega)
   simp only [AU,A6] at ha1 ha2
   have hot:=fun σ=>PQ u σ ⟨hnu.1,hnu.2⟩
   (repeat' (first|refine Run.ct rfl ?_|((first|refine Run.reg mixed ?_|refine Run.AM ?_|(refine AG.mk rfl (hka σ0 σ _ hH hb0 (by (try simp only [AD,AA,AF] at hlen ⊢);omega)) ?_;rintro _ σ1 ⟨rfl,hb1⟩)|refine AG.det (hlv) ?_|refine AG.det (hpl) ?_|(refine AQ rfl (fun h=>?_) (fun h=>?_)<;>try (cases h;done)))<;>try simp -implicitDefEqProofs only [A5,ltI,hlt,ha1,ha2,go_sem])|(refine ⟨fun h=>?_,fun h=>?_⟩<;>first|(cases h;done)|try simp only [h])|fail))
   (repeat' (first|refine Run.ct rfl ?_|((first|refine Run.reg mixed ?_|refine Run.AM ?_|(refine AG.mk rfl (A2 _ hb1 (by (try simp only [AD,AA,AF] at hlen ⊢);omega)) ?_;rintro _ σ2 ⟨rfl,hb2⟩)|refine AG.det (hot _) ?_|(refine AQ rfl (fun h=>?_) (fun h=>?_)<;>try (cases h;done)))<;>try simp -implicitDefEqProofs only [A5,ltI,hlt,ha1,ha2,go_sem])|(refine ⟨fun h=>?_,fun h=>?_⟩<;>first|(cases h;done)|try simp only [h])|fail))
   (repeat' (first|refine Run.ct rfl ?_|((first|refine Run.reg mixed ?_|refine Run.AM ?_|(refine AG.mk rfl (hkb σ0 σ2 _ hH hb2 (by (try simp only [AD,AA,AF] at hlen ⊢);omega)) ?_;rintro _ σ3 ⟨rfl,hb3⟩)|(refine AQ rfl (fun h=>?_) (fun h=>?_)<;>try (cases h;done)))<;>try simp -implicitDefEqProofs only [A5,ltI,hlt,ha1,ha2,go_sem])|(refine ⟨fun h=>?_,fun h=>?_⟩<;>first|(cases h;done)|try simp only [h])|fail))
   try simp only [AR,AU,A6,A0] at hb3 ⊢
   exact Run.fin B6 rfl (fun _ _ h=>h) (AN.le_refl _) ⟨rfl,hb3⟩
 by_cases h12:o=12
 · subst h12
   have hn':=hn
   simp only [Gc,AK] at hn'
   obtain ⟨⟨⟨⟨hnm,hnu⟩,hns⟩,has⟩,hnk⟩:=hn'
   cases ks with
   |nil=>simp [nkB] at hnk
   |cons f l=>
   have hli:=fF (i:=i) (ks:=l) (fun x hx=>hko x (Ae _ hx))
   have hf4:=hk f (A9 ..) 4
   have hfp:=Nl (hko f (A9 ..))
   have e:Ax (.mk 12 n u ns (f::l) al)=(if Lh f then If (Ax f) else pl 4 f (Ax f))++ID (l.map Ax):=by
    rw [Ax,Le];rfl
   rw [e] at hlen ⊢
   clear e
   unfold EC at hf4
   have hsl:ZB (List.map Ex.enc (f::l)) (some (.d (.int .i64 1))) none none 6=some (.d (.sl (l.map Ex.enc))):=nV f l
   generalize hpp:If (Ax f)=tp at *
   generalize pl 4 f (Ax f)=tq at *
   clear hpp
   obtain ⟨of,nf,uf,nsf,ksf,alf⟩:=f
   simp only [exA,Ex.A3,AE,AH] at hf4 hfp hlv hsl ⊢
   generalize lvl _=lv at hlv hlt
   by_cases h6:of=6
   · subst h6
     cases ksf with
     |nil=>
      have hbc:Lh (.mk 6 nf uf nsf [] alf)=true:=rfl
      rw [hbc,if_pos rfl] at hlen ⊢
      simp only [AH] at hf4 hfp hlv hsl ⊢
      (repeat' (first|refine Run.ct rfl ?_|((first|refine Run.reg mixed ?_|refine Run.AM ?_|(refine AG.mk rfl (hfp σ0 σ _ hH hb0 (by (try simp only [AD,AA,AF] at hlen ⊢);omega)) ?_;rintro _ σ1 ⟨rfl,hb1⟩)|refine AG.det (hlv) ?_|(refine AQ rfl (fun h=>?_) (fun h=>?_)<;>try (cases h;done)))<;>try simp -implicitDefEqProofs only [A5,ltI,hlt,hsl,Int.le_refl,if_true,NQ,Ca,B0,AD,AF,go_sem])|(refine ⟨fun h=>?_,fun h=>?_⟩<;>first|(cases h;done)|try simp only [h])|fail))
      (repeat' (first|refine Run.ct rfl ?_|((first|refine Run.reg mixed ?_|refine Run.AM ?_|(refine AG.mk rfl (hli σ0 σ1 _ hH hb1 (by (try simp only [AD,AA,AF] at hlen ⊢);omega)) ?_;rintro _ σ2 ⟨rfl,hb2⟩)|(refine AQ rfl (fun h=>?_) (fun h=>?_)<;>try (cases h;done)))<;>try simp -implicitDefEqProofs only [A5,ltI,hlt,hsl,Int.le_refl,if_true,NQ,Ca,B0,AD,AF,go_sem])|(refine ⟨fun h=>?_,fun h=>?_⟩<;>first|(cases h;done)|try simp only [h])|fail))
      try simp only [AR,AU,A6,A0] at hb2 ⊢
      exact Run.fin B6 rfl (fun _ _ h=>h) (AN.le_refl _) ⟨rfl,hb2⟩
     |cons k1 l1=>
      have hbc:Lh (.mk 6 nf uf nsf (k1::l1) alf)=false:=rfl
      rw [hbc,if_neg (by decide)] at hlen ⊢
      simp only [AE] at hf4 hfp hlv hsl ⊢
      (repeat' (first|refine Run.ct rfl ?_|((first|refine Run.reg mixed ?_|refine Run.AM ?_|(refine AG.mk rfl (hf4 σ0 σ _ hH hb0 (by (try simp only [AD,AA,AF] at hlen ⊢);omega)) ?_;rintro _ σ1 ⟨rfl,hb1⟩)|refine AG.det (hlv) ?_|(refine AQ rfl (fun h=>?_) (fun h=>?_)<;>try (cases h;done)))<;>try simp -implicitDefEqProofs only [A5,ltI,hlt,hsl,Int.le_refl,if_true,NQ,Ca,B0,AD,AF,eqS,AI,go_sem])|(refine ⟨fun h=>?_,fun h=>?_⟩<;>first|(cases h;done)|try simp only [h])|fail))
      (repeat' (first|refine Run.ct rfl ?_|((first|refine Run.reg mixed ?_|refine Run.AM ?_|(refine AG.mk rfl (hli σ0 σ1 _ hH hb1 (by (try simp only [AD,AA,AF] at hlen ⊢);omega)) ?_;rintro _ σ2 ⟨rfl,hb2⟩)|(refine AQ rfl (fun h=>?_) (fun h=>?_)<;>try (cases h;done)))<;>try simp -implicitDefEqProofs only [A5,ltI,hlt,hsl,Int.le_refl,if_true,NQ,Ca,B0,AD,AF,eqS,AI,go_sem])|(refine ⟨fun h=>?_,fun h=>?_⟩<;>first|(cases h;done)|try simp only [h])|fail))
      try simp only [AR,AU,A6,A0] at hb2 ⊢
      exact Run.fin B6 rfl (fun _ _ h=>h) (AN.le_refl _) ⟨rfl,hb2⟩
   · have hbc:Lh (.mk of nf uf nsf ksf alf)=false:=by show (of==6&&_)=false;rw [EF h6];rfl
     rw [hbc,if_neg (by decide)] at hlen ⊢
     (repeat' (first|refine Run.ct rfl ?_|((first|refine Run.reg mixed ?_|refine Run.AM ?_|(refine AG.mk rfl (hf4 σ0 σ _ hH hb0 (by (try simp only [AD,AA,AF] at hlen ⊢);omega)) ?_;rintro _ σ1 ⟨rfl,hb1⟩)|refine AG.det (hlv) ?_|(refine AQ rfl (fun h=>?_) (fun h=>?_)<;>try (cases h;done)))<;>try simp -implicitDefEqProofs only [A5,ltI,hlt,hsl,Int.le_refl,if_true,NQ,Ca,B0,AD,AF,EF h6,go_sem])|(refine ⟨fun h=>?_,fun h=>?_⟩<;>first|(cases h;done)|try simp only [h])|fail))
     (repeat' (first|refine Run.ct rfl ?_|((first|refine Run.reg mixed ?_|refine Run.AM ?_|(refine AG.mk rfl (hli σ0 σ1 _ hH hb1 (by (try simp only [AD,AA,AF] at hlen ⊢);omega)) ?_;rintro _ σ2 ⟨rfl,hb2⟩)|(refine AQ rfl (fun h=>?_) (fun h=>?_)<;>try (cases h;done)))<;>try simp -implicitDefEqProofs only [A5,ltI,hlt,hsl,Int.le_refl,if_true,NQ,Ca,B0,AD,AF,EF h6,go_sem])|(refine ⟨fun h=>?_,fun h=>?_⟩<;>first|(cases h;done)|try simp only [h])|fail))
     try simp only [AR,AU,A6,A0] at hb2 ⊢
     exact Run.fin B6 rfl (fun _ _ h=>h) (AN.le_refl _) ⟨rfl,hb2⟩
 have hn':=hn
 simp only [Gc,AK] at hn'
 obtain ⟨⟨⟨⟨hnm,hnu⟩,hns⟩,has⟩,hnk⟩:=hn'
 have hop:=fI hnk
 have hpo:nF o:=by unfold nF;unfold fG at ho;omega
 have hl:=nH hn hpo hko
 simp only [exA,Ex.A3,AE,AH] at hlv hl ⊢
 generalize lvl (.mk o n u ns ks al)=lv at hlv hlt
 generalize Ax (.mk o n u ns ks al)=txt at hl hlen ⊢
 simp only [fG,not_or] at ho
 obtain ⟨h1,h2,h3,h4,h5,h6⟩:=ho
 (repeat' (first|refine Run.ct rfl ?_|((first|refine Run.reg mixed ?_|refine Run.AM ?_|(refine AG.mk rfl (hl σ0 σ _ hH hb0 (by (try simp only [AD,AA,AF] at hlen ⊢);omega)) ?_;rintro _ σ1 ⟨rfl,hb1⟩)|refine AG.det (hlv) ?_|(refine AQ rfl (fun h=>?_) (fun h=>?_)<;>try (cases h;done)))<;>try simp -implicitDefEqProofs only [A5,ltI,hlt,EF h1,EF h2,EF h3,EF h4,EF h5,EF h6,EF h12,EF h13,go_sem])|(refine ⟨fun h=>?_,fun h=>?_⟩<;>first|(cases h;done)|try simp only [h])|fail))
 try simp only [AR,AU,A6,A0] at hb1 ⊢
 exact Run.fin B6 rfl (fun _ _ h=>h) (AN.le_refl _) ⟨rfl,hb1⟩
theorem hB {i:Nat} {o:Int} {n:Str} {u:Int} {ns:List Str} {ks:List Ex} {al:List Al} (hn:Gc o n u ns ks.length al=true)
 (hk:∀x∈ks,∀lev,EC i x lev)
 (ha:∀x∈al,∀j,WX (fun σ=>σ.blk j=some [.gp i 0]) 143 ([]++[alA x]++[.gp j 0]) i (Lv x)) (lev:Nat):EC i (.mk o n u ns ks al) lev:=by
 by_cases hlv0:lvl (.mk o n u ns ks al) < lev
 · have hpa:=Nl (Yo (Xs hn hk ha 0 (by omega)))
   intro σ0 σ s hH hb0 hlen
   rw [pl,if_pos hlv0] at hlen ⊢
   have hlv:=Zm (.mk o n u ns ks al) σ
   have hlt:decide (lvl (.mk o n u ns ks al) < lev)=true:=decide_eq_true hlv0
   refine JU (by simp) ?_
   rw [II]
   simp only [exA,Ex.A3,AE,AH] at hlv hpa ⊢
   generalize lvl (.mk o n u ns ks al)=lv at hlv hlt
   generalize If (Ax (.mk o n u ns ks al))=txt at hpa hlen ⊢
   (repeat' (first|refine Run.ct rfl ?_|((first|refine Run.reg mixed ?_|refine Run.AM ?_|(refine AG.mk rfl (hpa σ0 σ _ hH hb0 (by (try simp only [AD,AA,AF] at hlen ⊢);omega)) ?_;rintro _ σ1 ⟨rfl,hb1⟩)|refine AG.det (hlv) ?_|(refine AQ rfl (fun h=>?_) (fun h=>?_)<;>try (cases h;done)))<;>try simp -implicitDefEqProofs only [ltI,hlt,go_sem])|(refine ⟨fun h=>?_,fun h=>?_⟩<;>first|(cases h;done)|try simp only [h])|fail))
   exact Run.Ih B6 (AN.le_refl _) ⟨rfl,hb1⟩
 · exact Xs hn hk ha lev hlv0
mutual
theorem Y5 (i:Nat):∀(e:Ex),e.nb→∀lev,EC i e lev
 | .mk o n u ns ks al,h,lev=>by
  rw [Ex.nb] at h
  exact hB h.1 (Z4 i ks h.2.1) (eI i al h.2.2) lev
theorem Z4 (i:Nat):∀(l:List Ex),Ex.nbs l→∀x∈l,∀lev,EC i x lev
 |[],_,x,hx,_=>by cases hx
 |e::l,h,x,hx,lev=>by
  rw [Ex.nbs] at h
  rcases Bm.1 hx with hxe|hx
  · rw [hxe];exact Y5 i e h.1 lev
  · exact Z4 i l h.2 x hx lev
theorem eI (i:Nat):∀(l:List Al),Al.nbs l→∀x∈l,∀j,WX (fun σ=>σ.blk j=some [.gp i 0]) 143 ([]++[alA x]++[.gp j 0]) i (Lv x)
 |[],_,x,hx,_=>by cases hx
 | .mk c vs b::l,h,x,hx,j=>by
  rw [Al.nbs,Al.nb] at h
  rcases Bm.1 hx with hxe|hx
  · rw [hxe];exact sW j (Yo (Y5 i b h.1 0))
  · exact eI i l h.2 x hx j
end
end Go.Ab
namespace Go.Ab
theorem HT {s:Str} (h:Gy s=true):s.length≤24:=by
 obtain ⟨b,r,rfl,_,_,h3,h4⟩:=WS h
 first|exact h3|exact h4|omega
theorem Ng {s:Str} (h:upperB s=true):s.length≤24:=by
 obtain ⟨b,r,rfl,_,_,h4⟩:=Uc h
 exact h4
theorem TY {s:Str} (h:Gp s=true):(shown s).length≤24:=by
 rw [shown]
 split
 · simp
 · rename_i hs
   simp only [Gp,BE,beq_iff_eq] at h
   exact HT (h.resolve_left hs)
def JL (l:List Str):Nat:=Di (fun x=>x.length+3) l
theorem GD (x:Str) (l:List Str):JL (x::l)=x.length+3+JL l:=by simp [JL,Di]
theorem eX (sep:Str) (hs:sep.length≤3):∀l:List Str,(Lib.joinTail sep l).length≤JL l
 |[]=>by simp [Lib.joinTail,JL,Di]
 |x::l=>by
  have:=eX sep hs l
  rw [GD]
  simp only [Lib.joinTail,AE,C1,AA] at this ⊢
  omega
theorem RP {sep:Str} (hs:sep.length≤3) (l:List Str):(Lib.join l sep).length≤JL l:=by
 cases l with
 |nil=>simp [Lib.join_nil]
 |cons x l=>
  rw [Lib.join_cons,GD,AA]
  have:=eX sep hs l
  omega
theorem Nf (l:List Str):(IE l).length≤2+JL l:=by
 rw [IE]
 split
 · simp
 · have:=RP (sep:=[44,32]) (by decide) l
   simp only [If,cms,AD,AA,AF];omega
theorem Q9 (l:List Str):(ID l).length≤2+JL l:=by
 have:=RP (sep:=[44,32]) (by decide) l
 simp only [ID,If,cms,AD,AA,AF];omega
theorem Xd {l:List Str} {N:Nat} (h:∀x∈l,x.length≤N):JL l≤l.length * (N+3):=by
 induction l with
 |nil=>simp [JL,Di]
 |cons x l ih=>
  rw [GD,AD,Kb]
  have h1:=h x (A9 ..)
  have h2:=ih (fun y hy=>h y (Ae _ hy))
  omega
theorem sG {α:Type} (f:α→Str) (μ:α→Nat) (l:List α) (h:∀x∈l,(f x).length+3≤μ x):JL (l.map f)≤Di μ l:=by
 induction l with
 |nil=>simp [JL,Di]
 |cons x l ih=>
  rw [AE,GD]
  have h1:=h x (A9 ..)
  have h2:=ih (fun y hy=>h y (Ae _ hy))
  simp only [Di,AE,List.sum_cons] at h2 ⊢
  omega
theorem nY {α:Type} (c:Nat) (μ:α→Nat) (l:List α):Di (fun x=>c * μ x) l=c * Di μ l:=by
 induction l with
 |nil=>simp [Di]
 |cons x l ih=>simp only [Di,AE,List.sum_cons,Nat.mul_add] at ih ⊢;omega
theorem Xw:∀l:List Str,JL l.dropLast+(l.getLastD []).length≤JL l
 |[]=>by simp [JL,Di]
 |[x]=>by simp [JL,Di]
 |x::y::l=>by
  have:=Xw (y::l)
  rw [List.dropLast_cons_cons,GD,GD]
  have e:(x::y::l).getLastD []=(y::l).getLastD []:=by simp
  rw [e];omega
theorem nT {k:Int} {n:Str} {q:Nat} (h:Ct k n q=true):n.length≤24:=by
 unfold Ct at h
 repeat' (split at h)
 all_goals simp only [AK,beq_iff_eq,AY] at h
 all_goals first|exact HT h.1|exact Ng h.1|(have:=h.1;subst this;simp)|(have:=h.1.1;subst this;simp)
theorem lQ {k:Int} {n:Str} (hn:n.length≤24) (ts:List Str):(tyN k n ts).length≤40+JL ts:=by
 have h1:=Nf ts
 have h2:=Q9 ts.dropLast
 have h3:=Xw ts
 unfold tyN
 repeat' split
 all_goals simp only [AA,AD,AF]
 all_goals omega
theorem Zi:∀(d:Nat) (t:TE),Dc d t=true→(Cb t).length+3≤60 * t.size
 |0,t,h=>by simp [Dc] at h
 |d+1,.mk k n l,h=>by
  rw [Dc,AK,A4] at h
  rw [Cb,OZ,TE.size,OE]
  have h1:=lQ (k:=k) (nT h.1) (l.map Cb)
  have h2:=sG Cb (fun t=>60 * t.size) l (fun x hx=>Zi d x (h.2 x hx))
  rw [nY] at h2
  omega
theorem qH {o:Int} {n:Str} (h:nmB o n=true):n.length≤24∧(shown n).length≤24:=by
 unfold nmB at h
 have hs:n.length≤24→(shown n).length≤24:=fun h=>by rw [shown];split<;>simp_all
 repeat' (split at h)
 · exact ⟨HT h,hs (HT h)⟩
 · exact ⟨Ng h,hs (Ng h)⟩
 · refine ⟨?_,TY h⟩
   simp only [Gp,BE,beq_iff_eq] at h
   rcases h with rfl|h
   · simp
   · exact HT h
 · simp only [beq_iff_eq] at h;subst h;exact ⟨by simp,by decide⟩
theorem qO {o:Int} {ns:List Str} (h:nsB o ns=true):JL (ns.map shown)≤162∧JL ns≤162:=by
 have key:∀m:List Str,m.length≤6→(∀x∈m,x.length≤24)→JL m≤162:=fun m h1 h2=>by
  have:=Xd h2
  have:m.length * 27≤6 * 27:=Ai _ h1
  omega
 have hb:∀s:Str,Gp s=true→s.length≤24:=fun s h=>by
  simp only [Gp,BE,beq_iff_eq] at h
  rcases h with rfl|h
  · simp
  · exact HT h
 have hnb:∀s:Str,Gy s=true→Gp s=true:=fun s h=>by simp [Gp,h]
 unfold nsB at h
 split at h
 · simp only [AK,decide_eq_true_eq,A4] at h
   refine ⟨key _ (by simpa using h.1.2) (fun x hx=>?_),key _ h.1.2 (fun x hx=>hb x (h.2 x hx))⟩
   obtain ⟨y,hy,rfl⟩:=Ka.1 hx
   exact TY (h.2 y hy)
 · split at h
   · simp only [AK,decide_eq_true_eq,A4] at h
     refine ⟨key _ (by simpa using h.1) (fun x hx=>?_),key _ h.1 (fun x hx=>HT (h.2 x hx))⟩
     obtain ⟨y,hy,rfl⟩:=Ka.1 hx
     exact TY (hnb y (h.2 y hy))
   · rw [decide_eq_true_eq,List.length_eq_zero_iff] at h
     subst h;simp [JL,Di]
theorem lM {c:Str} {vs:List Str} {b:Ex} (h:SX (.mk c vs b)=true):(Lv (.mk c vs b)).length≤200+(Ax b).length:=by
 simp only [SX,AK,decide_eq_true_eq,A4] at h
 rw [Lv,alT]
 have h1:=Ng h.1.1
 have h2:=Nf (vs.map shown)
 have h3:JL (vs.map shown)≤(vs.map shown).length * 27:=Xd (fun x hx=>by obtain ⟨y,hy,rfl⟩:=Ka.1 hx;exact TY (h.2 y hy))
 have h4:(vs.map shown).length * 27≤6 * 27:=Ai _ (by simpa using h.1.2)
 simp only [AA,AD,AF]
 omega
theorem pH (l:List Str):(at0 l 0).length+JL l.tail≤JL l:=by
 cases l with
 |nil=>simp [at0,JL,Di]
 |cons x l=>
  rw [GD]
  show x.length+JL l≤_
  omega
theorem Zf (l:List Str):(at0 l 0).length+(at0 l 1).length+(at0 l 2).length≤JL l:=by
 match l with
 |[]=>simp [at0,JL,Di]
 |[x]=>simp [at0,JL,Di]
 |[x,y]=>
  rw [GD,GD]
  show x.length+y.length+0≤_
  omega
 |x::y::z::l=>
  rw [GD,GD,GD]
  show x.length+y.length+z.length≤_
  omega
theorem Yf (d:Nat) (k:Ex) (t:Str):(pl d k t).length≤2+t.length:=by
 rw [pl];split
 · simp only [If,AD,AA,AF];omega
 · omega
theorem Zh (t:Str):(If t).length≤2+t.length:=by simp only [If,AD,AA,AF];omega
theorem lN (ks:List Ex) (ts:List Str):(s9 ks ts).length≤8+JL ts:=by
 unfold s9
 have h1:=Q9 ts.tail
 have h2:=pH ts
 split
 · omega
 · have h3:=Zh (at0 ts 0)
   rename_i k _
   have h4:=Yf 4 k (at0 ts 0)
   rw [AA]
   split<;>omega
theorem lP (u:Int):(opT u).length≤10:=by
 unfold opT T7
 split<;>decide
theorem lO (u:Int) (ks:List Ex) (ts:List Str):(tD u ks ts).length≤20+JL ts:=by
 unfold tD
 have h2:=Zf ts
 have h3:=lP u
 split
 · rename_i a b
   have h4:=Yf (if EY u=1 then 2 else EY u) a (at0 ts 0)
   have h5:=Yf (if EY u=1 then 2 else EY u+1) b (at0 ts 1)
   simp only [AA,AD]
   omega
 · simp
theorem pK (u:Int):(prT u).length≤10:=by
 unfold prT
 repeat' split
 all_goals decide
theorem pJ {o u:Int} (h:nuB o u=true):(Lib.itoa u).length≤21:=by
 refine Lib.itoa_length_le u ?_ ?_
 all_goals
  unfold nuB at h
  repeat' (split at h)
  all_goals simp only [AK,decide_eq_true_eq,beq_iff_eq] at h
  all_goals omega
theorem pI {o:Int} {n:Str} {u:Int} {ns:List Str} (hn:nmB o n=true) (hu:nuB o u=true) (hs:nsB o ns=true) (ks:List Ex) (ts as':List Str):(OU o n u ns ks ts as').length≤250+JL ts+JL as':=by
 obtain ⟨h1,h2⟩:=qH hn
 obtain ⟨h3,h4⟩:=qO hs
 have h5:=Nf ts
 have h6:=Q9 ts
 have h7:=Zf ts
 have h8:=lN ks ts
 have h9:=lO u ks ts
 have h10:=pK u
 have h11:=pJ hu
 have h12:=Zh (Lib.itoa u)
 have h13:=Nf (ns.map shown)
 have h14:=Q9 ns
 have h15:=RP (sep:=[32,124,32]) (by decide) as'
 unfold OU
 by_cases h:o=7
 · rw [if_pos h];try simp only [AA,AD,AF]
   omega
 rw [if_neg h];clear h
 by_cases h:o=8
 · rw [if_pos h];try simp only [AA,AD,AF]
   omega
 rw [if_neg h];clear h
 by_cases h:o=9
 · rw [if_pos h];try simp only [AA,AD,AF]
   omega
 rw [if_neg h];clear h
 by_cases h:o=10
 · rw [if_pos h];try simp only [AA,AD,AF]
   omega
 rw [if_neg h];clear h
 by_cases h:o=11
 · rw [if_pos h];try simp only [AA,AD,AF]
   omega
 rw [if_neg h];clear h
 by_cases h:o=17
 · rw [if_pos h];try simp only [AA,AD,AF]
   omega
 rw [if_neg h];clear h
 by_cases h:o=13
 · rw [if_pos h];try simp only [AA,AD,AF]
   omega
 rw [if_neg h];clear h
 by_cases h:o=12
 · rw [if_pos h];try simp only [AA,AD,AF]
   omega
 rw [if_neg h];clear h
 by_cases h:o=1
 · rw [if_pos h];try simp only [AA,AD,AF]
   omega
 rw [if_neg h];clear h
 by_cases h:o=2
 · rw [if_pos h];split<;>(simp only [AD,AF];omega)
 rw [if_neg h];clear h
 by_cases h:o=3
 · rw [if_pos h];try simp only [AA,AD,AF]
   omega
 rw [if_neg h];clear h
 by_cases h:o=5
 · rw [if_pos h];try simp only [AA,AD,AF]
   omega
 rw [if_neg h];clear h
 by_cases h:o=14
 · rw [if_pos h];try simp only [AA,AD,AF]
   omega
 rw [if_neg h];clear h
 by_cases h:o=16
 · rw [if_pos h];try simp only [AA,AD,AF]
   omega
 rw [if_neg h];clear h
 by_cases h:o=15
 · rw [if_pos h];try simp only [AA,AD,AF]
   omega
 rw [if_neg h];clear h
 rw [AA];omega
mutual
theorem Ye:∀(e:Ex),e.nb→(Ax e).length+250≤800 * e.size
 | .mk o n u ns ks al,h=>by
  rw [Ex.nb] at h
  have hn:=h.1
  simp only [Gc,AK] at hn
  obtain ⟨⟨⟨⟨hnm,hnu⟩,hns⟩,has⟩,hnk⟩:=hn
  rw [Ax,Ex.size]
  have h1:=pI hnm hnu hns ks (Uk ks) (JK al)
  have h2:=Zg ks h.2.1
  have h3:=Ze al h.2.2 (bH has)
  omega
theorem Zg:∀(l:List Ex),Ex.nbs l→JL (Uk l)≤800 * Ex.BN l
 |[],_=>by simp [Uk,JL,Di]
 |e::l,h=>by
  rw [Ex.nbs] at h
  have h1:=Ye e h.1
  have h2:=Zg l h.2
  rw [Uk,GD,Ex.BN]
  omega
theorem Ze:∀(l:List Al),Al.nbs l→(∀a∈l,SX a=true)→JL (JK l)≤800 * Al.BN l
 |[],_,_=>by simp [JK,JL,Di]
 | .mk c vs b::l,h,ha=>by
  rw [Al.nbs,Al.nb] at h
  have h1:=Ye b h.1
  have h2:=Ze l h.2 (fun a hx=>ha a (Ae _ hx))
  have h3:=lM (ha _ (A9 ..))
  rw [JK,GD,Al.BN,Al.size]
  omega
end
theorem RO {α:Type} {f:Nat→α→Option Nat} {μ:α→Nat}:∀(l:List α) (q r:Nat),(∀x∈l,∀a b,f a x=some b→μ x+b≤a)→l.foldlM f q=some r→Di μ l+r≤q
 |[],q,r,_,h=>by
  simp only [List.foldlM_nil] at h
  cases h
  simp [Di]
 |y::l,q,r,hf,h=>by
  rw [List.foldlM_cons,AS,AB] at h
  obtain ⟨b,hb,h⟩:=h
  have h1:=hf y (A9 ..) q b hb
  have h2:=RO l b r (fun x hx=>hf x (Ae _ hx)) h
  simp only [Di,AE,List.sum_cons] at h2 ⊢
  omega
theorem Xv:∀l:List Ex,Ex.BN l=Di Ex.size l
 |[]=>rfl
 |e::l=>by rw [Ex.BN,Xv l];simp [Di]
theorem Xu:∀l:List Al,Al.BN l=Di Al.size l
 |[]=>rfl
 |e::l=>by rw [Al.BN,Xu l];simp [Di]
theorem dX:∀(d q:Nat) (e:Ex) (r:Nat),vEx d q e=some r→e.size+r≤q
 |0,q,.mk ..,r,h=>by simp [vEx] at h
 |d+1,0,.mk ..,r,h=>by cases h
 |d+1,q+1,.mk o n u ns ks al,r,h=>by
  simp only [vEx] at h
  split at h
  · rw [AB] at h
    obtain ⟨c,hc,h⟩:=h
    have h1:=RO (μ:=Ex.size) ks q c (fun x _ a b hab=>dX d a x b hab) hc
    have h2:=RO (μ:=Al.size) al c r (fun x _ a b hab=>by
     obtain ⟨cc,vs,bd⟩:=x
     rw [Al.size]
     exact dX d a bd b hab) h
    rw [Ex.size,Xv,Xu]
    omega
  · cases h
theorem ZI {q r:Nat} {f:FE} (h:XD q f=some r):Mj f=true∧f.body.nb∧f.body.size+r≤q:=by
 unfold XD at h
 split at h
 · rename_i hh;exact ⟨hh,ZH _ _ _ _ h,dX _ _ _ _ h⟩
 · cases h
theorem RA {p:Pg} (h:E6 p=true):(p.data.length≤12∧∀d∈p.data,IY d=true)∧p.R4.length≤24∧∀f∈p.R4,Mj f=true∧f.body.nb∧f.body.size≤600:=by
 simp only [E6,AK,decide_eq_true_eq,A4] at h
 obtain ⟨⟨⟨h1,h2⟩,h3⟩,h4⟩:=h
 obtain ⟨r,hr⟩:=Ux.1 h4
 have hs:=RO (μ:=fun f=>f.body.size) p.R4 600 r (fun x _ a b hab=>(ZI hab).2.2) hr
 have ha:=N1 (Q:=fun f=>Mj f=true∧f.body.nb) p.R4 600 r (fun x _ a b hab=>⟨(ZI hab).1,(ZI hab).2.1⟩) hr
 refine ⟨⟨h1,h3⟩,h2,fun f hf=>⟨(ha f hf).1,(ha f hf).2,?_⟩⟩
 have:=Tj (μ:=fun f:FE=>f.body.size) hf
 omega
theorem RN {α:Type} (f:α→Str) (N:Nat):∀l:List α,(∀x∈l,(f x).length≤N)→(l.map f).flatten.length≤l.length * N
 |[],_=>by simp
 |x::l,h=>by
  have h1:=h x (A9 ..)
  have h2:=RN f N l (fun y hy=>h y (Ae _ hy))
  rw [AE,C1,AA,AD,Kb]
  omega
theorem iM {c:CE} (h:UA c=true) (hs:∀t∈c.args,t.size≤100000):(fmtC c).length≤40000000:=by
 simp only [UA,AK,decide_eq_true_eq,A4] at h
 rw [fmtC,AA]
 have h1:=Ng h.1.1
 have h2:=Nf (c.args.map Cb)
 have h3:JL (c.args.map Cb)≤(c.args.map Cb).length * (6000000+3):=Xd (fun x hx=>by
  obtain ⟨t,ht,rfl⟩:=Ka.1 hx
  have:=Zi 40 t (h.2 t ht)
  have:=hs t ht
  omega)
 have h4:(c.args.map Cb).length * (6000000+3)≤6 * (6000000+3):=Ai _ (by simpa using h.1.2)
 omega
theorem cI {d:DE} (h:IY d=true) (hs:∀c∈d.cons,∀t∈c.args,t.size≤100000):(S6 d).length≤400000000:=by
 simp only [IY,AK,decide_eq_true_eq,A4] at h
 obtain ⟨⟨⟨⟨⟨h1,h2⟩,h3⟩,h4⟩,h5⟩,h6⟩:=h
 rw [S6]
 have g1:=Ng h1
 have g2:=Nf d.vars
 have g3:JL d.vars≤d.vars.length * 27:=Xd (fun x hx=>HT (h3 x hx))
 have g4:d.vars.length * 27≤6 * 27:=Ai _ h2
 have g5:=RP (sep:=[32,124,32]) (by decide) (d.cons.map fmtC)
 have g6:JL (d.cons.map fmtC)≤(d.cons.map fmtC).length * (40000000+3):=Xd (fun x hx=>by
  obtain ⟨t,ht,rfl⟩:=Ka.1 hx
  exact iM (h6 t ht) (hs t ht))
 have g7:(d.cons.map fmtC).length * (40000000+3)≤8 * (40000000+3):=Ai _ (by simpa using h5)
 simp only [AA,AD,AF]
 omega
theorem iN {f:FE} (h:Mj f=true) (hb:f.body.nb) (hs:f.body.size≤600):(UE f).length≤1000000:=by
 simp only [Mj,AK,decide_eq_true_eq,A4] at h
 rw [UE]
 have g1:=HT h.1.1
 have g2:=Q9 f.params
 have g3:JL f.params≤f.params.length * 27:=Xd (fun x hx=>HT (h.2 x hx))
 have g4:f.params.length * 27≤6 * 27:=Ai _ h.1.2
 have g5:=Ye f.body hb
 simp only [AA,AD,AF]
 omega
theorem pB {p:Pg} (h:E6 p=true) (hs:∀d∈p.data,∀c∈d.cons,∀t∈c.args,t.size≤100000):(XX p).length≤10000000000:=by
 obtain ⟨⟨h1,h2⟩,h3,h4⟩:=RA h
 rw [XX,AA]
 have g1:=RN S6 400000000 p.data (fun d hd=>cI (h2 d hd) (hs d hd))
 have g2:=RN UE 1000000 p.R4 (fun f hf=>iN (h4 f hf).1 (h4 f hf).2.1 (h4 f hf).2.2)
 have g3:p.data.length * 400000000≤12 * 400000000:=Ai _ h1
 have g4:p.R4.length * 1000000≤24 * 1000000:=Ai _ h3
 omega
end Go.Ab
