/- The guards on programs: Names, written, expr. The guards on programs: Prog. Conditions: none. -/
import Derived.Test.YtlckhmkeihbhmaaGreatXTo
set_option linter.unusedSimpArgs false
set_option linter.unusedVariables false
set_option maxRecDepth 4000
set_option maxHeartbeats 8000000
open List renaming length_map→AA,all_eq_true→As,mem_of_getElem?→AT,all_append→PX,take_of_length_le→AH,mem_append→A3,mem_singleton→B5,map_cons→AI,map_nil→AO,take→DN,drop→Cs,append_nil→Aq,nil_append→Au,length_take→Aj
open Bool renaming eq_false_iff→Bv,false_and→B1,and_true→Am,and_eq_true→AQ
open Nat renaming eq_zero_or_pos→D9,min_eq_left→CO,le_refl→A0
namespace Go.Ab
open Go.Proofs
def S0 (l:List Str):Bool:=l.all fun s=>decide (s.length≤40)
theorem LF (n:Nat):decide ((40:Int) < (n:Int))=decide (40 < n):=decide_eq_decide.2 (by omega)
theorem Zh (n:Nat):decide ((10:Int) < (n:Int))=decide (10 < n):=decide_eq_decide.2 (by omega)
theorem kU (n:Nat):decide ((n:Int)≤(10:Int))=decide (n≤10):=decide_eq_decide.2 (by omega)
theorem Iq (l:List Str) (σ:AF):AM Tryz.prog 26 [.d (.sl (l.map BF)),.d (.int .i64 10)] σ (fun v σ'=>v= .d (.bool (decide (l.length≤10)&&S0 l))∧σ'=σ):=by
 refine XY (by simp) ?_
 rw [BY]
 refine Run.slot 0 (fun hb0=>?_)
 simp only [Dn,if_true,AV.FB,AA] at hb0
 (repeat' (first|refine Run.ct rfl ?_|((first|refine Run.reg mixed ?_|refine Run.AD ?_)<;>try simp -implicitDefEqProofs only [AA,go_sem])|fail))
 refine Run.BD ?_
 refine Run.BG ((fun (a0:AV) (a1:AV)=>fun (i:Nat)=>put 0 a0 (put 1 a1 (put 5 (.d (.int .i64 i)) U))) _ _) (fun _=>E) (fun _=>σ) (fun i=>i≤l.length∧i≤11∧S0 (l.take i)=true) (fun i=>l.length - i) ?_ 0 ⟨by simp,by simp,by simp [S0]⟩
 rintro i ⟨hi,h11,hno⟩ ih
 by_cases hlt:i < l.length
 · obtain ⟨x,hx⟩:=BC hlt
   have he:=Ay (enc:=BF) hx
   simp only [BF] at he
   have hw1:IntKind.i64.wrap ((i:Int)+1)=((i+1:Nat):Int):=by rw [BI (by omega) (by omega)];omega
   by_cases h10:i≤10
   · by_cases hs:40 < x.length
     · have hf:(decide (l.length≤10)&&S0 l)=false:=by
        rw [Bool.and_eq_false_iff];right
        rw [Bv]
        intro h
        rw [S0,As] at h
        have:=h x (AT hx)
        rw [decide_eq_true_eq] at this;omega
       (repeat' (first|refine Run.ct rfl ?_|((first|refine Run.reg mixed ?_|refine Run.AD ?_|refine Run.A1 KA (AF.le_refl _) ?_)<;>try simp -implicitDefEqProofs only [A8 hlt,he,hw1,kU,decide_eq_true h10,LF,decide_eq_true hs,AA,go_sem])|fail))
       rw [hf]
     · (repeat' (first|refine Run.ct rfl ?_|((first|refine Run.reg mixed ?_|refine Run.AD ?_)<;>try simp -implicitDefEqProofs only [A8 hlt,he,hw1,kU,decide_eq_true h10,LF,decide_eq_false hs,AA,go_sem])|fail))
       exact ih (i+1) ⟨by omega,by omega,by
        rw [Aw hx,S0,PX]
        rw [S0] at hno
        rw [hno];simp;omega⟩ (by omega)
   · have hgt:decide (l.length≤10)=false:=decide_eq_false (by omega)
     (repeat' (first|refine Run.ct rfl ?_|((first|refine Run.reg mixed ?_|refine Run.AD ?_|refine Run.A1 KA (AF.le_refl _) ?_)<;>try simp -implicitDefEqProofs only [A8 hlt,he,hw1,kU,decide_eq_false h10,AA,hgt,go_sem])|fail))
     try rw [B1]
 · have hile:i=l.length:=by omega
   subst hile
   rw [AH (by omega)] at hno
   (repeat' (first|refine Run.ct rfl ?_|((first|refine Run.reg mixed ?_|refine Run.AD ?_|refine Run.A1 KA (AF.le_refl _) ?_)<;>try simp -implicitDefEqProofs only [Bd hlt,kU,AA,go_sem])|fail))
   rw [hno,Am]
mutual
def TE.sm:TE→Prop
 | .mk _ n l=>n.length≤40∧TE.sms l
def TE.sms:List TE→Prop
 |[]=>True
 |t::l=>t.sm∧TE.sms l
end
def eO (l:List Str):Prop:=l.length≤10∧∀s∈l,s.length≤40
mutual
def Ex.sm:Ex→Prop
 | .mk _ n _ ns ks al=>n.length≤40∧eO ns∧Ex.sms ks∧Al.sms al
def Ex.sms:List Ex→Prop
 |[]=>True
 |t::l=>t.sm∧Ex.sms l
def Al.sm:Al→Prop
 | .mk c vs b=>c.length≤40∧eO vs∧b.sm
def Al.sms:List Al→Prop
 |[]=>True
 |t::l=>t.sm∧Al.sms l
end
theorem TE.L6:∀ {l:List TE},TE.sms l↔∀t∈l,t.sm
 |[]=>by simp [TE.sms]
 |t::l=>by simp [TE.sms,TE.L6 (l:=l)]
theorem Ex.L6:∀ {l:List Ex},Ex.sms l↔∀t∈l,t.sm
 |[]=>by simp [Ex.sms]
 |t::l=>by simp [Ex.sms,Ex.L6 (l:=l)]
theorem Al.L6:∀ {l:List Al},Al.sms l↔∀t∈l,t.sm
 |[]=>by simp [Al.sms]
 |t::l=>by simp [Al.sms,Al.L6 (l:=l)]
theorem Xc {l:List Str} (h:(decide (l.length≤10)&&S0 l)=true):eO l:=by
 simp only [S0,AQ,decide_eq_true_eq,As] at h;exact h
theorem Ej {α:Type} {p:α→Prop} {l:List α} {i:Nat} {x:α} (h:∀t∈l.take i,p t) (hx:l[i]?=some x) (hp:p x):∀t∈l.take (i+1),p t:=by
 intro t ht
 rw [Aw hx,A3,B5] at ht
 rcases ht with ht|rfl
 · exact h t ht
 · exact hp
theorem TE.G1 {l:List TE} {i:Nat} {x:TE} (h:l[i]?=some x):TE.A2 (l.take (i+1))=TE.A2 (l.take i)+x.size:=by
 rw [Aw h,TE.CA];simp [TE.A2]
theorem Ex.G1 {l:List Ex} {i:Nat} {x:Ex} (h:l[i]?=some x):Ex.A2 (l.take (i+1))=Ex.A2 (l.take i)+x.size:=by
 rw [Aw h,Ex.CA];simp [Ex.A2]
theorem Al.G1 {l:List Al} {i:Nat} {x:Al} (h:l[i]?=some x):Al.A2 (l.take (i+1))=Al.A2 (l.take i)+x.size:=by
 rw [Aw h,Al.CA];simp [Al.A2]
def jX (nD:Prop) (size q:Nat) (b:Bool) (z:Int):Prop:=b=true→nD∧∃q':Nat,z=q'∧size+q'=q
theorem Uy {q:Nat}:decide ((q:Int) < 0)=false:=decide_eq_false (by omega)
set_option maxHeartbeats 4000000 in
theorem T9 (j:Nat):∀(N:Nat) (t:TE) (q:Nat) (σ:AF),t.size≤N→q≤1000→σ.blk j=some [.d (.int .i64 q)]→
 AM Tryz.prog 27 [teA t,.gp j 0] σ (fun v σ'=>∃b z,(v= .d (.bool b)∧σ'=σ.AP j [.d (.int .i64 z)])∧jX t.sm t.size q b z):=by
 intro N
 induction N with
 |zero=>intro t q σ h;have:=TE.size_pos t;omega
 |succ N ihN=>
 rintro ⟨k,n,l⟩ q σ hN hq hj
 simp only [TE.size] at hN
 refine Uj (by simp) ?_
 rw [BY,teA,TE.A7]
 simp only [AI,AO]
 generalize hQ:(fun (v:AV) (σ':AF)=>∃b z,(v= .d (.bool b)∧σ'=σ.AP j [.d (.int .i64 z)])∧jX (TE.mk k n l).sm (TE.mk k n l).size q b z)=Q
 have hno:∀z,Q (.d (.bool false)) (σ.AP j [.d (.int .i64 z)]):=fun z=>by rw [← hQ];exact ⟨false,z,⟨rfl,rfl⟩,fun h=>by cases h⟩
 have hyes:∀q':Nat,n.length≤40→(∀t∈l,t.sm)→1+TE.A2 l+q'=q→Q (.d (.bool true)) (σ.AP j [.d (.int .i64 q')]):=fun q' h1 h2 h3=>by
  rw [← hQ];exact ⟨true,q',⟨rfl,rfl⟩,fun _=>⟨by rw [TE.sm,TE.L6];exact ⟨h1,h2⟩,q',rfl,by rw [TE.size];exact h3⟩⟩
 clear hQ
 rcases D9 q with rfl|hq0
 · have hm1:IntKind.i64.wrap (((0:Nat):Int) - 1)=-1:=by decide
   have hn1:decide ((-1:Int) < 0)=true:=by decide
   (repeat' (first|refine Run.ct rfl ?_|((first|refine Run.reg mixed ?_|refine Run.AD ?_|(refine Run.A1 GN (AF.le_refl _) ?_))<;>try simp -implicitDefEqProofs only [hj,hm1,hn1,AL,DN,Cs,Aq,Au,go_sem])|fail))
   exact hno _
 obtain ⟨q,rfl⟩:∃m,q=m+1:=⟨q - 1,by omega⟩
 have hm1:IntKind.i64.wrap (((q+1:Nat):Int) - 1)=(q:Int):=by rw [BI (by omega) (by omega)];omega
 by_cases h40:40 < n.length
 · (repeat' (first|refine Run.ct rfl ?_|((first|refine Run.reg mixed ?_|refine Run.AD ?_|(refine Run.A1 GN (AF.le_refl _) ?_))<;>try simp -implicitDefEqProofs only [hj,hm1,Uy,LF,decide_eq_true h40,AL,DN,Cs,Aq,Au,go_sem])|fail))
   exact hno _
 (repeat' (first|refine Run.ct rfl ?_|((first|refine Run.reg mixed ?_|refine Run.AD ?_)<;>try simp -implicitDefEqProofs only [hj,hm1,Uy,LF,decide_eq_false h40,AL,DN,Cs,Aq,Au,go_sem])|fail))
 refine Run.BD ?_
 refine Run.BG ((fun (a1:AV) (a2:AV)=>fun (y:Nat×Nat)=>put 1 a1 (put 2 a2 (put 5 (.d (.int .i64 y.1)) U))) _ _) (fun _=>BE 2 [.d (.int .i64 k),.d (.str n),.d (.sl (l.map TE.enc))] E) (fun y=>σ.AP j [.d (.int .i64 y.2)])
  (fun y=>y.1≤l.length∧(∀t∈l.take y.1,t.sm)∧TE.A2 (l.take y.1)+y.2=q) (fun y=>l.length - y.1) ?_ (0,q) ⟨by simp,by simp,by simp [TE.A2]⟩
 rintro ⟨i,q'⟩ ⟨hi,hsm,hsz⟩ ih
 simp only at hi hsm hsz
 have hil:=TE.C9 (l.take i)
 rw [Aj,CO hi] at hil
 by_cases hlt:i < l.length
 · obtain ⟨x,hx⟩:=BC hlt
   have he:=Ay (enc:=TE.enc) hx
   have hw1:=A6 (show i+1≤9000000000000000000 by omega)
   have hxs:=TE.Ja (AT hx)
   have hc:=ihN x q' (σ.AP j [.d (.int .i64 q')]) (by omega) (by omega) (by rw [AL,if_pos rfl])
   have hst:=TE.G1 hx
   have hms:=fun hp=>Ej (p:=TE.sm) hsm hx hp
   obtain ⟨xk,xn,xl⟩:=x
   simp only [teA,TE.A7,AI,AO] at he hc
   (repeat' (first|refine Run.ct rfl ?_|((first|refine Run.reg mixed ?_|refine Run.AD ?_|(refine AJ.mk rfl hc ?_;rintro v σ' ⟨b,z,⟨rfl,rfl⟩,hres⟩;cases b<;>rw [F5])|(refine Run.A1 GN (AF.le_refl _) ?_))<;>try simp -implicitDefEqProofs only [A8 hlt,he,hw1,AA,go_sem])|fail))
   · exact hno z
   · obtain ⟨g1,q2,rfl,g2⟩:=hres rfl
     exact ih (i+1,q2) ⟨by simp only;omega,hms g1,by simp only;omega⟩ (by simp only;omega)
 · rw [AH (by omega)] at hsm hsz
   (repeat' (first|refine Run.ct rfl ?_|((first|refine Run.reg mixed ?_|refine Run.AD ?_|(refine Run.A1 GN (AF.le_refl _) ?_))<;>try simp -implicitDefEqProofs only [Bd hlt,AA,go_sem])|fail))
   exact hyes q' (by omega) hsm (by omega)
theorem X8 (j:Nat):∀(N:Nat) (e:Ex) (q:Nat) (σ:AF),e.size≤N→q≤1000→σ.blk j=some [.d (.int .i64 q)]→
 AM Tryz.prog 28 [exA e,.gp j 0] σ (fun v σ'=>∃b z,(v= .d (.bool b)∧σ'=σ.AP j [.d (.int .i64 z)])∧jX e.sm e.size q b z):=by
 intro N
 induction N with
 |zero=>intro t q σ h;have:=Ex.size_pos t;omega
 |succ N ihN=>
 rintro ⟨o,n,u,ns,ks,al⟩ q σ hN hq hj
 simp only [Ex.size] at hN
 refine YT (by simp) ?_
 rw [BY,exA,Ex.A7]
 simp only [AI,AO]
 generalize hQ:(fun (v:AV) (σ':AF)=>∃b z,(v= .d (.bool b)∧σ'=σ.AP j [.d (.int .i64 z)])∧jX (Ex.mk o n u ns ks al).sm (Ex.mk o n u ns ks al).size q b z)=Q
 have hno:∀z,Q (.d (.bool false)) (σ.AP j [.d (.int .i64 z)]):=fun z=>by rw [← hQ];exact ⟨false,z,⟨rfl,rfl⟩,fun h=>by cases h⟩
 have hyes:∀q':Nat,n.length≤40→eO ns→(∀t∈ks,t.sm)→(∀t∈al,t.sm)→1+Ex.A2 ks+Al.A2 al+q'=q→Q (.d (.bool true)) (σ.AP j [.d (.int .i64 q')]):=fun q' h1 h2 h3 h4 h5=>by
  rw [← hQ];exact ⟨true,q',⟨rfl,rfl⟩,fun _=>⟨by rw [Ex.sm,Ex.L6,Al.L6];exact ⟨h1,h2,h3,h4⟩,q',rfl,by rw [Ex.size];exact h5⟩⟩
 clear hQ
 have hnm:=fun σ=>Iq ns σ
 rcases D9 q with rfl|hq0
 · have hm1:IntKind.i64.wrap (((0:Nat):Int) - 1)=-1:=by decide
   have hn1:decide ((-1:Int) < 0)=true:=by decide
   (repeat' (first|refine Run.ct rfl ?_|((first|refine Run.reg mixed ?_|refine Run.AD ?_|(refine Run.A1 Db (AF.le_refl _) ?_))<;>try simp -implicitDefEqProofs only [hj,hm1,hn1,AL,DN,Cs,Aq,Au,go_sem])|fail))
   exact hno _
 obtain ⟨q,rfl⟩:∃m,q=m+1:=⟨q - 1,by omega⟩
 have hm1:IntKind.i64.wrap (((q+1:Nat):Int) - 1)=(q:Int):=by rw [BI (by omega) (by omega)];omega
 by_cases h40:40 < n.length
 · (repeat' (first|refine Run.ct rfl ?_|((first|refine Run.reg mixed ?_|refine Run.AD ?_|(refine Run.A1 Db (AF.le_refl _) ?_))<;>try simp -implicitDefEqProofs only [hj,hm1,Uy,LF,decide_eq_true h40,AL,DN,Cs,Aq,Au,go_sem])|fail))
   exact hno _
 cases hnk:(decide (ns.length≤10)&&S0 ns) with
 |false=>
  rw [hnk] at hnm
  (repeat' (first|refine Run.ct rfl ?_|((first|refine Run.reg mixed ?_|refine Run.AD ?_|(refine Run.A1 Db (AF.le_refl _) ?_)|refine AJ.det (hnm _) ?_)<;>try simp -implicitDefEqProofs only [hj,hm1,Uy,LF,decide_eq_false h40,AL,DN,Cs,Aq,Au,go_sem])|fail))
  exact hno _
 |true=>
 rw [hnk] at hnm
 by_cases hk10:10 < ks.length
 · (repeat' (first|refine Run.ct rfl ?_|((first|refine Run.reg mixed ?_|refine Run.AD ?_|(refine Run.A1 Db (AF.le_refl _) ?_)|refine AJ.det (hnm _) ?_)<;>try simp -implicitDefEqProofs only [hj,hm1,Uy,LF,decide_eq_false h40,Zh,AA,decide_eq_true hk10,AL,DN,Cs,Aq,Au,go_sem])|fail))
   exact hno _
 by_cases ha10:10 < al.length
 · (repeat' (first|refine Run.ct rfl ?_|((first|refine Run.reg mixed ?_|refine Run.AD ?_|(refine Run.A1 Db (AF.le_refl _) ?_)|refine AJ.det (hnm _) ?_)<;>try simp -implicitDefEqProofs only [hj,hm1,Uy,LF,decide_eq_false h40,Zh,AA,decide_eq_false hk10,decide_eq_true ha10,AL,DN,Cs,Aq,Au,go_sem])|fail))
   exact hno _
 (repeat' (first|refine Run.ct rfl ?_|((first|refine Run.reg mixed ?_|refine Run.AD ?_|refine AJ.det (hnm _) ?_)<;>try simp -implicitDefEqProofs only [hj,hm1,Uy,LF,decide_eq_false h40,Zh,AA,decide_eq_false hk10,decide_eq_false ha10,AL,DN,Cs,Aq,Au,go_sem])|fail))
 refine Run.BD ?_
 refine Run.BG ((fun (a1:AV) (a2:AV)=>fun (y:Nat×Nat)=>put 1 a1 (put 2 a2 (put 5 (.d (.int .i64 y.1)) U))) _ _) (fun _=>BE 2 [.d (.int .i64 o),.d (.str n),.d (.int .i64 u),.d (.sl (ns.map BF)),.d (.sl (ks.map Ex.enc)),.d (.sl (al.map Al.enc))] E) (fun y=>σ.AP j [.d (.int .i64 y.2)])
  (fun y=>y.1≤ks.length∧(∀t∈ks.take y.1,t.sm)∧Ex.A2 (ks.take y.1)+y.2=q) (fun y=>ks.length - y.1) ?_ (0,q) ⟨by simp,by simp,by simp [Ex.A2]⟩
 rintro ⟨i,q'⟩ ⟨hi,hsm,hsz⟩ ih
 simp only at hi hsm hsz
 by_cases hlt:i < ks.length
 · obtain ⟨x,hx⟩:=BC hlt
   have he:=Ay (enc:=Ex.enc) hx
   have hw1:=A6 (show i+1≤9000000000000000000 by omega)
   have hxs:=Ex.Ja (AT hx)
   have hc:=ihN x q' (σ.AP j [.d (.int .i64 q')]) (by omega) (by omega) (by rw [AL,if_pos rfl])
   have hst:=Ex.G1 hx
   have hms:=fun hp=>Ej (p:=Ex.sm) hsm hx hp
   obtain ⟨xo,xn,xu,xns,xks,xal⟩:=x
   simp only [exA,Ex.A7,AI,AO] at he hc
   (repeat' (first|refine Run.ct rfl ?_|((first|refine Run.reg mixed ?_|refine Run.AD ?_|(refine AJ.mk rfl hc ?_;rintro v σ' ⟨b,z,⟨rfl,rfl⟩,hres⟩;cases b<;>rw [F5])|(refine Run.A1 Db (AF.le_refl _) ?_))<;>try simp -implicitDefEqProofs only [A8 hlt,he,hw1,AA,go_sem])|fail))
   · exact hno z
   · obtain ⟨g1,q2,rfl,g2⟩:=hres rfl
     exact ih (i+1,q2) ⟨by simp only;omega,hms g1,by simp only;omega⟩ (by simp only;omega)
 · rw [AH (by omega)] at hsm hsz
   clear ih
   (repeat' (first|refine Run.ct rfl ?_|((first|refine Run.reg mixed ?_|refine Run.AD ?_)<;>try simp -implicitDefEqProofs only [Bd hlt,AA,go_sem])|fail))
   refine Run.BD ?_
   refine Run.BG ((fun (a1:AV) (a2:AV)=>fun (y:Nat×Nat)=>put 1 a1 (put 2 a2 (put 6 (.d (.int .i64 y.1)) U))) _ _) (fun _=>BE 2 [.d (.int .i64 o),.d (.str n),.d (.int .i64 u),.d (.sl (ns.map BF)),.d (.sl (ks.map Ex.enc)),.d (.sl (al.map Al.enc))] E) (fun y=>σ.AP j [.d (.int .i64 y.2)])
    (fun y=>y.1≤al.length∧(∀t∈al.take y.1,t.sm)∧Al.A2 (al.take y.1)+y.2=q') (fun y=>al.length - y.1) ?_ (0,q') ⟨by simp,by simp,by simp [Al.A2]⟩
   rintro ⟨i2,q2⟩ ⟨hi2,hsm2,hsz2⟩ ih
   simp only at hi2 hsm2 hsz2
   by_cases hlt:i2 < al.length
   · obtain ⟨x,hx⟩:=BC hlt
     have he:=Ay (enc:=Al.enc) hx
     have hw1:=A6 (show i2+1≤9000000000000000000 by omega)
     have hxs:=Al.Ja (AT hx)
     have hst:=Al.G1 hx
     have hms:=fun hp=>Ej (p:=Al.sm) hsm2 hx hp
     obtain ⟨xc,xvs,xb⟩:=x
     rw [Al.size] at hxs hst
     have hc:=ihN xb q2 (σ.AP j [.d (.int .i64 q2)]) (by omega) (by omega) (by rw [AL,if_pos rfl])
     have hnv:=fun σ=>Iq xvs σ
     obtain ⟨xo,xn,xu,xns,xks,xal⟩:=xb
     simp only [exA,Al.A7,Ex.A7,AI,AO] at he hc
     by_cases hc40:40 < xc.length
     · (repeat' (first|refine Run.ct rfl ?_|((first|refine Run.reg mixed ?_|refine Run.AD ?_|(refine Run.A1 Db (AF.le_refl _) ?_))<;>try simp -implicitDefEqProofs only [A8 hlt,he,LF,decide_eq_true hc40,AA,go_sem])|fail))
       exact hno _
     cases hvk:(decide (xvs.length≤10)&&S0 xvs) with
     |false=>
      rw [hvk] at hnv
      (repeat' (first|refine Run.ct rfl ?_|((first|refine Run.reg mixed ?_|refine Run.AD ?_|(refine Run.A1 Db (AF.le_refl _) ?_)|refine AJ.det (hnv _) ?_)<;>try simp -implicitDefEqProofs only [A8 hlt,he,LF,decide_eq_false hc40,AA,go_sem])|fail))
      exact hno _
     |true=>
     rw [hvk] at hnv
     (repeat' (first|refine Run.ct rfl ?_|((first|refine Run.reg mixed ?_|refine Run.AD ?_|(refine AJ.mk rfl hc ?_;rintro v σ' ⟨b,z,⟨rfl,rfl⟩,hres⟩;cases b<;>rw [F5])|(refine Run.A1 Db (AF.le_refl _) ?_)|refine AJ.det (hnv _) ?_)<;>try simp -implicitDefEqProofs only [A8 hlt,he,hw1,LF,decide_eq_false hc40,AA,go_sem])|fail))
     · exact hno z
     · obtain ⟨g1,q3,rfl,g2⟩:=hres rfl
       exact ih (i2+1,q3) ⟨by simp only;omega,hms (by rw [Al.sm];exact ⟨by omega,Xc hvk,g1⟩),by simp only;omega⟩ (by simp only;omega)
   · rw [AH (by omega)] at hsm2 hsz2
     (repeat' (first|refine Run.ct rfl ?_|((first|refine Run.reg mixed ?_|refine Run.AD ?_|(refine Run.A1 Db (AF.le_refl _) ?_))<;>try simp -implicitDefEqProofs only [Bd hlt,AA,go_sem])|fail))
     exact hyes q2 (by omega) (Xc hnk) hsm hsm2 (by omega)
end Go.Ab
namespace Go.Ab
open Go.Proofs
def CE.sm (c:CE):Prop:=c.name.length≤40∧c.args.length≤10∧∀t∈c.args,t.sm∧t.size≤200
def DE.sm (d:DE):Prop:=d.name.length≤40∧eO d.vars∧d.cons.length≤10∧∀c∈d.cons,c.sm
def FE.sm (f:FE):Prop:=f.name.length≤40∧eO f.params∧f.body.sm∧f.body.size≤200
def Pg.sm (p:Pg):Prop:=(p.data.length≤14∧∀d∈p.data,d.sm)∧p.MW.length≤26∧∀f∈p.MW,f.sm
theorem nF (n:Nat):decide ((14:Int) < (n:Int))=decide (14 < n):=decide_eq_decide.2 (by omega)
theorem pF (n:Nat):decide ((26:Int) < (n:Int))=decide (26 < n):=decide_eq_decide.2 (by omega)
theorem X7 (p:Pg) (σ:AF):AM Tryz.prog 8 [pgA p] σ (fun v σ'=>∃b,(v= .d (.bool b)∧σ'=σ)∧(b=true→p.sm)):=by
 refine YS (by simp) ?_
 rw [Bg]
 obtain ⟨ds,fs⟩:=p
 simp only [pgA,Pg.enc,AI,AO]
 generalize hQ:(fun (v:AV) (σ':AF)=>∃b,(v= .d (.bool b)∧σ'=σ)∧(b=true→Pg.sm ⟨ds,fs⟩))=Q
 have hno:Q (.d (.bool false)) σ:=by rw [← hQ];exact ⟨false,⟨rfl,rfl⟩,fun h=>by cases h⟩
 have hyes:Pg.sm ⟨ds,fs⟩→Q (.d (.bool true)) σ:=fun h=>by rw [← hQ];exact ⟨true,⟨rfl,rfl⟩,fun _=>h⟩
 clear hQ
 by_cases hd14:14 < ds.length
 · (repeat' (first|refine Run.ct rfl ?_|((first|refine Run.reg mixed ?_|refine Run.AD ?_|refine Run.Fu Cl (AF.le_refl _) ?_)<;>try simp -implicitDefEqProofs only [AA,nF,decide_eq_true hd14,go_sem])|fail))
   exact hno
 by_cases hf26:26 < fs.length
 · (repeat' (first|refine Run.ct rfl ?_|((first|refine Run.reg mixed ?_|refine Run.AD ?_|refine Run.Fu Cl (AF.le_refl _) ?_)<;>try simp -implicitDefEqProofs only [AA,nF,decide_eq_false hd14,pF,decide_eq_true hf26,go_sem])|fail))
   exact hno
 (repeat' (first|refine Run.ct rfl ?_|((first|refine Run.reg mixed ?_|refine Run.AD ?_)<;>try simp -implicitDefEqProofs only [AA,nF,decide_eq_false hd14,pF,decide_eq_false hf26,go_sem])|fail))
 rintro j ⟨hj,hjb⟩
 obtain ⟨hle0,hbj⟩:=gB (z:=[AV.d (.int .i64 0)]) (x:=(1,3)) ⟨hj,hjb⟩
 generalize hτ:(σ.AP j [AV.d (.int .i64 0)]).DK j (1,3)=τ0 at hle0 hbj ⊢
 have hle:∀q:Nat,σ.le (τ0.AP j [.d (.int .i64 q)]):=fun q=>C1 hle0 hj
 have hbk:∀q:Nat,(τ0.AP j [.d (.int .i64 q)]).blk j=some [.d (.int .i64 q)]:=fun q=>by rw [AL,if_pos rfl]
 clear hτ
 simp -implicitDefEqProofs only [hbj,Cs,go_sem]
 (repeat' (first|refine Run.ct rfl ?_|((first|refine Run.reg mixed ?_|refine Run.AD ?_)<;>try simp -implicitDefEqProofs only [AA,hbj,Cs,go_sem])|fail))
 refine Run.BD ?_
 refine Run.BG ((fun (a1:AV) (a3:AV) (a23:AV) (a24:AV)=>fun (y:Nat×Nat)=>put 1 a1 (put 3 a3 (put 23 a23 (put 24 a24 (put 25 (.d (.int .i64 y.1)) U))))) _ _ _ _) (fun _=>BE 1 [.d (.sl (ds.map DE.enc)),.d (.sl (fs.map FE.enc))] E) (fun y=>τ0.AP j [.d (.int .i64 y.2)])
  (fun y=>y.1≤ds.length∧y.2≤200∧∀d∈ds.take y.1,d.sm) (fun y=>ds.length - y.1) ?_ (0,200) ⟨by simp,by simp,by simp⟩
 rintro ⟨i,q⟩ ⟨hi,hq,hsm⟩ ih
 simp only at hi hq hsm
 by_cases hlt:i < ds.length
 · obtain ⟨d,hd⟩:=BC hlt
   have he:=Ay (enc:=DE.enc) hd
   have hw1:=A6 (show i+1≤9000000000000000000 by omega)
   have hms:=fun hp=>Ej (p:=DE.sm) hsm hd hp
   obtain ⟨dn,dvs',dcs⟩:=d
   simp only [DE.enc] at he
   have hnm:=fun σ=>Iq dvs' σ
   by_cases h40:40 < dn.length
   · (repeat' (first|refine Run.ct rfl ?_|((first|refine Run.reg mixed ?_|refine Run.AD ?_|(refine Run.A1 Cl (σ2:=σ) (hle _) ?_))<;>try simp -implicitDefEqProofs only [A8 hlt,he,LF,decide_eq_true h40,AA,go_sem])|fail))
     exact hno
   cases hnk:(decide (dvs'.length≤10)&&S0 dvs') with
   |false=>
    rw [hnk] at hnm
    (repeat' (first|refine Run.ct rfl ?_|((first|refine Run.reg mixed ?_|refine Run.AD ?_|(refine Run.A1 Cl (σ2:=σ) (hle _) ?_)|refine AJ.det (hnm _) ?_)<;>try simp -implicitDefEqProofs only [A8 hlt,he,LF,decide_eq_false h40,AA,go_sem])|fail))
    exact hno
   |true=>
   rw [hnk] at hnm
   by_cases hc10:10 < dcs.length
   · (repeat' (first|refine Run.ct rfl ?_|((first|refine Run.reg mixed ?_|refine Run.AD ?_|(refine Run.A1 Cl (σ2:=σ) (hle _) ?_)|refine AJ.det (hnm _) ?_)<;>try simp -implicitDefEqProofs only [A8 hlt,he,LF,decide_eq_false h40,Zh,decide_eq_true hc10,AA,go_sem])|fail))
     exact hno
   (repeat' (first|refine Run.ct rfl ?_|((first|refine Run.reg mixed ?_|refine Run.AD ?_|refine AJ.det (hnm _) ?_)<;>try simp -implicitDefEqProofs only [A8 hlt,he,LF,decide_eq_false h40,Zh,decide_eq_false hc10,AA,go_sem])|fail))
   refine Run.BD ?_
   refine Run.BG ((fun (a1:AV) (a3:AV) (a23:AV) (a24:AV) (a25:AV) (a46:AV) (a47:AV)=>fun (y:Nat×Nat)=>put 1 a1 (put 3 a3 (put 23 a23 (put 24 a24 (put 25 a25 (put 46 a46 (put 47 a47 (put 48 (.d (.int .i64 y.1)) U)))))))) _ _ _ _ _ _ _) (fun _=>BE 1 [.d (.sl (ds.map DE.enc)),.d (.sl (fs.map FE.enc))] E) (fun y=>τ0.AP j [.d (.int .i64 y.2)])
    (fun y=>y.1≤dcs.length∧y.2≤200∧∀d∈dcs.take y.1,d.sm) (fun y=>dcs.length - y.1) ?_ (0,q) ⟨by simp,hq,by simp⟩
   rintro ⟨i1,q1⟩ ⟨hi1,hq1,hsm1⟩ ih1
   simp only at hi1 hq1 hsm1
   by_cases hlt1:i1 < dcs.length
   · obtain ⟨c,hc⟩:=BC hlt1
     have he1:=Ay (enc:=CE.enc) hc
     have hw2:=A6 (show i1+1≤9000000000000000000 by omega)
     have hms1:=fun hp=>Ej (p:=CE.sm) hsm1 hc hp
     obtain ⟨cn,ar⟩:=c
     simp only [CE.enc] at he1
     by_cases hcn40:40 < cn.length
     · (repeat' (first|refine Run.ct rfl ?_|((first|refine Run.reg mixed ?_|refine Run.AD ?_|(refine Run.A1 Cl (σ2:=σ) (hle _) ?_))<;>try simp -implicitDefEqProofs only [A8 hlt1,he1,LF,decide_eq_true hcn40,AA,go_sem])|fail))
       exact hno
     by_cases ha10:10 < ar.length
     · (repeat' (first|refine Run.ct rfl ?_|((first|refine Run.reg mixed ?_|refine Run.AD ?_|(refine Run.A1 Cl (σ2:=σ) (hle _) ?_))<;>try simp -implicitDefEqProofs only [A8 hlt1,he1,LF,decide_eq_false hcn40,Zh,decide_eq_true ha10,AA,go_sem])|fail))
       exact hno
     (repeat' (first|refine Run.ct rfl ?_|((first|refine Run.reg mixed ?_|refine Run.AD ?_)<;>try simp -implicitDefEqProofs only [A8 hlt1,he1,LF,decide_eq_false hcn40,Zh,decide_eq_false ha10,AA,go_sem])|fail))
     refine Run.BD ?_
     refine Run.BG ((fun (a1:AV) (a3:AV) (a23:AV) (a24:AV) (a25:AV) (a46:AV) (a47:AV) (a48:AV) (a63:AV) (a64:AV)=>fun (y:Nat×Nat)=>put 1 a1 (put 3 a3 (put 23 a23 (put 24 a24 (put 25 a25 (put 46 a46 (put 47 a47 (put 48 a48 (put 63 a63 (put 64 a64 (put 65 (.d (.int .i64 y.1)) U))))))))))) _ _ _ _ _ _ _ _ _ _) (fun _=>BE 1 [.d (.sl (ds.map DE.enc)),.d (.sl (fs.map FE.enc))] E) (fun y=>τ0.AP j [.d (.int .i64 y.2)])
      (fun y=>y.1≤ar.length∧y.2≤200∧∀t∈ar.take y.1,t.sm∧t.size≤200) (fun y=>ar.length - y.1) ?_ (0,q1) ⟨by simp,hq1,by simp⟩
     rintro ⟨i2,q2⟩ ⟨hi2,hq2,hsm2⟩ ih2
     simp only at hi2 hq2 hsm2
     by_cases hlt2:i2 < ar.length
     · obtain ⟨x,hx⟩:=BC hlt2
       have he2:=Ay (enc:=TE.enc) hx
       have hw3:=A6 (show i2+1≤9000000000000000000 by omega)
       have hms2:=fun hp=>Ej (p:=fun t=>TE.sm t∧t.size≤200) hsm2 hx hp
       have hcl:=T9 j x.size x q2 (τ0.AP j [.d (.int .i64 q2)]) (A0 _) (by omega) (hbk q2)
       obtain ⟨xk,xn,xl⟩:=x
       simp only [teA,TE.A7,AI,AO] at he2 hcl
       (repeat' (first|refine Run.ct rfl ?_|((first|refine Run.reg mixed ?_|refine Run.AD ?_|(refine AJ.mk rfl hcl ?_;rintro v σ' ⟨b,z,⟨rfl,rfl⟩,hres⟩;cases b<;>rw [F5])|(refine Run.A1 Cl (σ2:=σ) (C1 hle0 hj) ?_))<;>try simp -implicitDefEqProofs only [A8 hlt2,he2,hw3,AA,go_sem])|fail))
       · exact hno
       · obtain ⟨g1,q3,rfl,g2⟩:=hres rfl
         exact ih2 (i2+1,q3) ⟨by simp only;omega,by simp only;omega,hms2 ⟨g1,by omega⟩⟩ (by simp only;omega)
     · rw [AH (by omega)] at hsm2
       (repeat' (first|refine Run.ct rfl ?_|((first|refine Run.reg mixed ?_|refine Run.AD ?_)<;>try simp -implicitDefEqProofs only [Bd hlt2,hw2,AA,go_sem])|fail))
       exact ih1 (i1+1,q2) ⟨by simp only;omega,hq2,hms1 ⟨by simp only;omega,by simp only;omega,hsm2⟩⟩ (by simp only;omega)
   · rw [AH (by omega)] at hsm1
     (repeat' (first|refine Run.ct rfl ?_|((first|refine Run.reg mixed ?_|refine Run.AD ?_)<;>try simp -implicitDefEqProofs only [Bd hlt1,hw1,AA,go_sem])|fail))
     exact ih (i+1,q1) ⟨by simp only;omega,hq1,hms ⟨by simp only;omega,Xc hnk,by simp only;omega,hsm1⟩⟩ (by simp only;omega)
 · rw [AH (by omega)] at hsm
   clear ih
   (repeat' (first|refine Run.ct rfl ?_|((first|refine Run.reg mixed ?_|refine Run.AD ?_)<;>try simp -implicitDefEqProofs only [Bd hlt,AA,go_sem])|fail))
   refine Run.BD ?_
   refine Run.BG ((fun (a3:AV) (a76:AV) (a77:AV)=>fun (y:Nat×Nat)=>put 3 a3 (put 76 a76 (put 77 a77 (put 78 (.d (.int .i64 y.1)) U)))) _ _ _) (fun _=>E) (fun y=>τ0.AP j [.d (.int .i64 y.2)])
    (fun y=>y.1≤fs.length∧y.2≤200∧∀d∈fs.take y.1,d.sm) (fun y=>fs.length - y.1) ?_ (0,q) ⟨by simp,hq,by simp⟩
   rintro ⟨i1,q1⟩ ⟨hi1,hq1,hsm1⟩ ih
   simp only at hi1 hq1 hsm1
   by_cases hlt1:i1 < fs.length
   · obtain ⟨f,hf⟩:=BC hlt1
     have he:=Ay (enc:=FE.enc) hf
     have hw1:=A6 (show i1+1≤9000000000000000000 by omega)
     have hms:=fun hp=>Ej (p:=FE.sm) hsm1 hf hp
     obtain ⟨fn,fps,fb⟩:=f
     have hnm:=fun σ=>Iq fps σ
     have hcl:=X8 j fb.size fb q1 (τ0.AP j [.d (.int .i64 q1)]) (A0 _) (by omega) (hbk q1)
     obtain ⟨xo,xn,xu,xns,xks,xal⟩:=fb
     simp only [FE.enc,exA,Ex.A7,AI,AO] at he hcl
     by_cases h40:40 < fn.length
     · (repeat' (first|refine Run.ct rfl ?_|((first|refine Run.reg mixed ?_|refine Run.AD ?_|(refine Run.A1 Cl (σ2:=σ) (hle _) ?_))<;>try simp -implicitDefEqProofs only [A8 hlt1,he,LF,decide_eq_true h40,AA,go_sem])|fail))
       exact hno
     cases hnk:(decide (fps.length≤10)&&S0 fps) with
     |false=>
      rw [hnk] at hnm
      (repeat' (first|refine Run.ct rfl ?_|((first|refine Run.reg mixed ?_|refine Run.AD ?_|(refine Run.A1 Cl (σ2:=σ) (hle _) ?_)|refine AJ.det (hnm _) ?_)<;>try simp -implicitDefEqProofs only [A8 hlt1,he,LF,decide_eq_false h40,AA,go_sem])|fail))
      exact hno
     |true=>
     rw [hnk] at hnm
     (repeat' (first|refine Run.ct rfl ?_|((first|refine Run.reg mixed ?_|refine Run.AD ?_|(refine AJ.mk rfl hcl ?_;rintro v σ' ⟨b,z,⟨rfl,rfl⟩,hres⟩;cases b<;>rw [F5])|(refine Run.A1 Cl (σ2:=σ) (C1 hle0 hj) ?_)|refine AJ.det (hnm _) ?_)<;>try simp -implicitDefEqProofs only [A8 hlt1,he,hw1,LF,decide_eq_false h40,AA,go_sem])|fail))
     · exact hno
     · obtain ⟨g1,q3,rfl,g2⟩:=hres rfl
       exact ih (i1+1,q3) ⟨by simp only;omega,by simp only;omega,hms ⟨by simp only;omega,Xc hnk,g1,by simp only;omega⟩⟩ (by simp only;omega)
   · rw [AH (by omega)] at hsm1
     (repeat' (first|refine Run.ct rfl ?_|((first|refine Run.reg mixed ?_|refine Run.AD ?_|(refine Run.A1 Cl (σ2:=σ) (hle _) ?_))<;>try simp -implicitDefEqProofs only [Bd hlt1,AA,go_sem])|fail))
     exact hyes ⟨⟨by simp only;omega,hsm⟩,by simp only;omega,hsm1⟩
end Go.Ab
