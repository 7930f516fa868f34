/- The guards on programs: Names, written, expr. The guards on programs: Prog. Conditions: none. -/
import Derived.Test.YtlckhmkeihbhmaaGreatXTo
set_option linter.unusedSimpArgs false
set_option linter.unusedVariables false
set_option maxRecDepth 4000
set_option maxHeartbeats 8000000
open List renaming length_map→AA,all_eq_true→Aj,mem_of_getElem?→AS,take_of_length_le→AG,mem_append→A6,mem_singleton→B6,map_cons→AH,map_nil→AM,take→DS,drop→DR,append_nil→At,nil_append→Au,length_take→Ae
open Bool renaming eq_false_iff→Bw,false_and→B2,and_true→Az,and_eq_true→AN
open Nat renaming eq_zero_or_pos→Df,min_eq_left→CT,le_refl→A0
namespace Go.Ab
open Go.Proofs
def Sf (l:List Str):Bool:=l.all fun s=>decide (s.length≤40)
theorem LK (n:Nat):decide ((40:Int) < (n:Int))=decide (40 < n):=decide_eq_decide.2 (by omega)
theorem cA (n:Nat):decide ((10:Int) < (n:Int))=decide (10 < n):=decide_eq_decide.2 (by omega)
theorem nR (n:Nat):decide ((n:Int)≤(10:Int))=decide (n≤10):=decide_eq_decide.2 (by omega)
theorem Iu (l:List Str) (σ:AF):AK Tryz.prog 26 [.d (.sl (l.map Ak)),.d (.int .i64 10)] σ (fun v σ'=>v= .d (.bool (decide (l.length≤10)&&Sf l))∧σ'=σ):=by
 refine YJ (by simp) ?_
 rw [BR]
 refine Run.slot 0 (fun hb0=>?_)
 simp only [CZ,if_true,AV.Dl,AA] at hb0
 (repeat' (first|refine Run.ct rfl ?_|((first|refine Run.reg mixed ?_|refine Run.AD ?_)<;>try simp -implicitDefEqProofs only [AA,go_sem])|fail))
 refine Run.Ay ?_
 refine Run.BB ((fun (a0:AV) (a1:AV)=>fun (i:Nat)=>put 0 a0 (put 1 a1 (put 5 (.d (.int .i64 i)) U))) _ _) (fun _=>E) (fun _=>σ) (fun i=>i≤l.length∧i≤11∧Sf (l.take i)=true) (fun i=>l.length - i) ?_ 0 ⟨by simp,by simp,by simp [Sf]⟩
 rintro i ⟨hi,h11,hno⟩ ih
 by_cases hlt:i < l.length
 · obtain ⟨x,hx⟩:=Aw hlt
   have he:=Aq (enc:=Ak) hx
   simp only [Ak] at he
   have hw1:IntKind.i64.wrap ((i:Int)+1)=((i+1:Nat):Int):=by rw [As (by omega) (by omega)];omega
   by_cases h10:i≤10
   · by_cases hs:40 < x.length
     · have hf:(decide (l.length≤10)&&Sf l)=false:=by
        rw [Bool.and_eq_false_iff];right
        rw [Bw]
        intro h
        rw [Sf,Aj] at h
        have:=h x (AS hx)
        rw [decide_eq_true_eq] at this;omega
       (repeat' (first|refine Run.ct rfl ?_|((first|refine Run.reg mixed ?_|refine Run.AD ?_|refine Run.A1 KN (AF.le_refl _) ?_)<;>try simp -implicitDefEqProofs only [A8 hlt,he,hw1,nR,decide_eq_true h10,LK,decide_eq_true hs,AA,go_sem])|fail))
       rw [hf]
     · (repeat' (first|refine Run.ct rfl ?_|((first|refine Run.reg mixed ?_|refine Run.AD ?_)<;>try simp -implicitDefEqProofs only [A8 hlt,he,hw1,nR,decide_eq_true h10,LK,decide_eq_false hs,AA,go_sem])|fail))
       exact ih (i+1) ⟨by omega,by omega,by
        rw [Am hx,Sf,List.all_append]
        rw [Sf] at hno
        rw [hno];simp;omega⟩ (by omega)
   · have hgt:decide (l.length≤10)=false:=decide_eq_false (by omega)
     (repeat' (first|refine Run.ct rfl ?_|((first|refine Run.reg mixed ?_|refine Run.AD ?_|refine Run.A1 KN (AF.le_refl _) ?_)<;>try simp -implicitDefEqProofs only [A8 hlt,he,hw1,nR,decide_eq_false h10,AA,hgt,go_sem])|fail))
     try rw [B2]
 · have hile:i=l.length:=by omega
   subst hile
   rw [AG (by omega)] at hno
   (repeat' (first|refine Run.ct rfl ?_|((first|refine Run.reg mixed ?_|refine Run.AD ?_|refine Run.A1 KN (AF.le_refl _) ?_)<;>try simp -implicitDefEqProofs only [B8 hlt,nR,AA,go_sem])|fail))
   rw [hno,Az]
mutual
def TE.sm:TE→Prop
 | .mk _ n l=>n.length≤40∧TE.sms l
def TE.sms:List TE→Prop
 |[]=>True
 |t::l=>t.sm∧TE.sms l
end
def Y8 (l:List Str):Prop:=l.length≤10∧∀s∈l,s.length≤40
mutual
def Ex.sm:Ex→Prop
 | .mk _ n _ ns ks al=>n.length≤40∧Y8 ns∧Ex.sms ks∧Al.sms al
def Ex.sms:List Ex→Prop
 |[]=>True
 |t::l=>t.sm∧Ex.sms l
def Al.sm:Al→Prop
 | .mk c vs b=>c.length≤40∧Y8 vs∧b.sm
def Al.sms:List Al→Prop
 |[]=>True
 |t::l=>t.sm∧Al.sms l
end
theorem TE.Iw:∀ {l:List TE},TE.sms l↔∀t∈l,t.sm
 |[]=>by simp [TE.sms]
 |t::l=>by simp [TE.sms,TE.Iw (l:=l)]
theorem Ex.Iw:∀ {l:List Ex},Ex.sms l↔∀t∈l,t.sm
 |[]=>by simp [Ex.sms]
 |t::l=>by simp [Ex.sms,Ex.Iw (l:=l)]
theorem Al.Iw:∀ {l:List Al},Al.sms l↔∀t∈l,t.sm
 |[]=>by simp [Al.sms]
 |t::l=>by simp [Al.sms,Al.Iw (l:=l)]
theorem Y7 {l:List Str} (h:(decide (l.length≤10)&&Sf l)=true):Y8 l:=by
 simp only [Sf,AN,decide_eq_true_eq,Aj] at h;exact h
theorem Ch {α:Type} {p:α→Prop} {l:List α} {i:Nat} {x:α} (h:∀t∈l.take i,p t) (hx:l[i]?=some x) (hp:p x):∀t∈l.take (i+1),p t:=by
 intro t ht
 rw [Am hx,A6,B6] at ht
 rcases ht with ht|rfl
 · exact h t ht
 · exact hp
theorem TE.G7 {l:List TE} {i:Nat} {x:TE} (h:l[i]?=some x):TE.A2 (l.take (i+1))=TE.A2 (l.take i)+x.size:=by
 rw [Am h,TE.CC];simp [TE.A2]
theorem Ex.G7 {l:List Ex} {i:Nat} {x:Ex} (h:l[i]?=some x):Ex.A2 (l.take (i+1))=Ex.A2 (l.take i)+x.size:=by
 rw [Am h,Ex.CC];simp [Ex.A2]
theorem Al.G7 {l:List Al} {i:Nat} {x:Al} (h:l[i]?=some x):Al.A2 (l.take (i+1))=Al.A2 (l.take i)+x.size:=by
 rw [Am h,Al.CC];simp [Al.A2]
def mU (qB:Prop) (size q:Nat) (b:Bool) (z:Int):Prop:=b=true→qB∧∃q':Nat,z=q'∧size+q'=q
theorem V8 {q:Nat}:decide ((q:Int) < 0)=false:=decide_eq_false (by omega)
set_option maxHeartbeats 4000000 in
theorem Tq (j:Nat):∀(N:Nat) (t:TE) (q:Nat) (σ:AF),t.size≤N→q≤1000→σ.blk j=some [.d (.int .i64 q)]→
 AK Tryz.prog 27 [teA t,.gp j 0] σ (fun v σ'=>∃b z,(v= .d (.bool b)∧σ'=σ.AQ j [.d (.int .i64 z)])∧mU t.sm t.size q b z):=by
 intro N
 induction N with
 |zero=>intro t q σ h;have:=TE.size_pos t;omega
 |succ N ihN=>
 rintro ⟨k,n,l⟩ q σ hN hq hj
 simp only [TE.size] at hN
 refine VM (by simp) ?_
 rw [BR,teA,TE.A3]
 simp only [AH,AM]
 generalize hQ:(fun (v:AV) (σ':AF)=>∃b z,(v= .d (.bool b)∧σ'=σ.AQ j [.d (.int .i64 z)])∧mU (TE.mk k n l).sm (TE.mk k n l).size q b z)=Q
 have hno:∀z,Q (.d (.bool false)) (σ.AQ j [.d (.int .i64 z)]):=fun z=>by rw [← hQ];exact ⟨false,z,⟨rfl,rfl⟩,fun h=>by cases h⟩
 have hyes:∀q':Nat,n.length≤40→(∀t∈l,t.sm)→1+TE.A2 l+q'=q→Q (.d (.bool true)) (σ.AQ j [.d (.int .i64 q')]):=fun q' h1 h2 h3=>by
  rw [← hQ];exact ⟨true,q',⟨rfl,rfl⟩,fun _=>⟨by rw [TE.sm,TE.Iw];exact ⟨h1,h2⟩,q',rfl,by rw [TE.size];exact h3⟩⟩
 clear hQ
 rcases Df q with rfl|hq0
 · have hm1:IntKind.i64.wrap (((0:Nat):Int) - 1)=-1:=by decide
   have hn1:decide ((-1:Int) < 0)=true:=by decide
   (repeat' (first|refine Run.ct rfl ?_|((first|refine Run.reg mixed ?_|refine Run.AD ?_|(refine Run.A1 GS (AF.le_refl _) ?_))<;>try simp -implicitDefEqProofs only [hj,hm1,hn1,AP,DS,DR,At,Au,go_sem])|fail))
   exact hno _
 obtain ⟨q,rfl⟩:∃m,q=m+1:=⟨q - 1,by omega⟩
 have hm1:IntKind.i64.wrap (((q+1:Nat):Int) - 1)=(q:Int):=by rw [As (by omega) (by omega)];omega
 by_cases h40:40 < n.length
 · (repeat' (first|refine Run.ct rfl ?_|((first|refine Run.reg mixed ?_|refine Run.AD ?_|(refine Run.A1 GS (AF.le_refl _) ?_))<;>try simp -implicitDefEqProofs only [hj,hm1,V8,LK,decide_eq_true h40,AP,DS,DR,At,Au,go_sem])|fail))
   exact hno _
 (repeat' (first|refine Run.ct rfl ?_|((first|refine Run.reg mixed ?_|refine Run.AD ?_)<;>try simp -implicitDefEqProofs only [hj,hm1,V8,LK,decide_eq_false h40,AP,DS,DR,At,Au,go_sem])|fail))
 refine Run.Ay ?_
 refine Run.BB ((fun (a1:AV) (a2:AV)=>fun (y:Nat×Nat)=>put 1 a1 (put 2 a2 (put 5 (.d (.int .i64 y.1)) U))) _ _) (fun _=>BA 2 [.d (.int .i64 k),.d (.str n),.d (.sl (l.map TE.enc))] E) (fun y=>σ.AQ j [.d (.int .i64 y.2)])
  (fun y=>y.1≤l.length∧(∀t∈l.take y.1,t.sm)∧TE.A2 (l.take y.1)+y.2=q) (fun y=>l.length - y.1) ?_ (0,q) ⟨by simp,by simp,by simp [TE.A2]⟩
 rintro ⟨i,q'⟩ ⟨hi,hsm,hsz⟩ ih
 simp only at hi hsm hsz
 have hil:=TE.CY (l.take i)
 rw [Ae,CT hi] at hil
 by_cases hlt:i < l.length
 · obtain ⟨x,hx⟩:=Aw hlt
   have he:=Aq (enc:=TE.enc) hx
   have hw1:=A7 (show i+1≤9000000000000000000 by omega)
   have hxs:=TE.G2 (AS hx)
   have hc:=ihN x q' (σ.AQ j [.d (.int .i64 q')]) (by omega) (by omega) (by rw [AP,if_pos rfl])
   have hst:=TE.G7 hx
   have hms:=fun hp=>Ch (p:=TE.sm) hsm hx hp
   obtain ⟨xk,xn,xl⟩:=x
   simp only [teA,TE.A3,AH,AM] at he hc
   (repeat' (first|refine Run.ct rfl ?_|((first|refine Run.reg mixed ?_|refine Run.AD ?_|(refine AI.mk rfl hc ?_;rintro v σ' ⟨b,z,⟨rfl,rfl⟩,hres⟩;cases b<;>rw [F6])|(refine Run.A1 GS (AF.le_refl _) ?_))<;>try simp -implicitDefEqProofs only [A8 hlt,he,hw1,AA,go_sem])|fail))
   · exact hno z
   · obtain ⟨g1,q2,rfl,g2⟩:=hres rfl
     exact ih (i+1,q2) ⟨by simp only;omega,hms g1,by simp only;omega⟩ (by simp only;omega)
 · rw [AG (by omega)] at hsm hsz
   (repeat' (first|refine Run.ct rfl ?_|((first|refine Run.reg mixed ?_|refine Run.AD ?_|(refine Run.A1 GS (AF.le_refl _) ?_))<;>try simp -implicitDefEqProofs only [B8 hlt,AA,go_sem])|fail))
   exact hyes q' (by omega) hsm (by omega)
theorem YW (j:Nat):∀(N:Nat) (e:Ex) (q:Nat) (σ:AF),e.size≤N→q≤1000→σ.blk j=some [.d (.int .i64 q)]→
 AK Tryz.prog 28 [exA e,.gp j 0] σ (fun v σ'=>∃b z,(v= .d (.bool b)∧σ'=σ.AQ j [.d (.int .i64 z)])∧mU e.sm e.size q b z):=by
 intro N
 induction N with
 |zero=>intro t q σ h;have:=Ex.size_pos t;omega
 |succ N ihN=>
 rintro ⟨o,n,u,ns,ks,al⟩ q σ hN hq hj
 simp only [Ex.size] at hN
 refine Z1 (by simp) ?_
 rw [BR,exA,Ex.A3]
 simp only [AH,AM]
 generalize hQ:(fun (v:AV) (σ':AF)=>∃b z,(v= .d (.bool b)∧σ'=σ.AQ j [.d (.int .i64 z)])∧mU (Ex.mk o n u ns ks al).sm (Ex.mk o n u ns ks al).size q b z)=Q
 have hno:∀z,Q (.d (.bool false)) (σ.AQ j [.d (.int .i64 z)]):=fun z=>by rw [← hQ];exact ⟨false,z,⟨rfl,rfl⟩,fun h=>by cases h⟩
 have hyes:∀q':Nat,n.length≤40→Y8 ns→(∀t∈ks,t.sm)→(∀t∈al,t.sm)→1+Ex.A2 ks+Al.A2 al+q'=q→Q (.d (.bool true)) (σ.AQ j [.d (.int .i64 q')]):=fun q' h1 h2 h3 h4 h5=>by
  rw [← hQ];exact ⟨true,q',⟨rfl,rfl⟩,fun _=>⟨by rw [Ex.sm,Ex.Iw,Al.Iw];exact ⟨h1,h2,h3,h4⟩,q',rfl,by rw [Ex.size];exact h5⟩⟩
 clear hQ
 have hnm:=fun σ=>Iu ns σ
 rcases Df q with rfl|hq0
 · have hm1:IntKind.i64.wrap (((0:Nat):Int) - 1)=-1:=by decide
   have hn1:decide ((-1:Int) < 0)=true:=by decide
   (repeat' (first|refine Run.ct rfl ?_|((first|refine Run.reg mixed ?_|refine Run.AD ?_|(refine Run.A1 Dk (AF.le_refl _) ?_))<;>try simp -implicitDefEqProofs only [hj,hm1,hn1,AP,DS,DR,At,Au,go_sem])|fail))
   exact hno _
 obtain ⟨q,rfl⟩:∃m,q=m+1:=⟨q - 1,by omega⟩
 have hm1:IntKind.i64.wrap (((q+1:Nat):Int) - 1)=(q:Int):=by rw [As (by omega) (by omega)];omega
 by_cases h40:40 < n.length
 · (repeat' (first|refine Run.ct rfl ?_|((first|refine Run.reg mixed ?_|refine Run.AD ?_|(refine Run.A1 Dk (AF.le_refl _) ?_))<;>try simp -implicitDefEqProofs only [hj,hm1,V8,LK,decide_eq_true h40,AP,DS,DR,At,Au,go_sem])|fail))
   exact hno _
 cases hnk:(decide (ns.length≤10)&&Sf ns) with
 |false=>
  rw [hnk] at hnm
  (repeat' (first|refine Run.ct rfl ?_|((first|refine Run.reg mixed ?_|refine Run.AD ?_|(refine Run.A1 Dk (AF.le_refl _) ?_)|refine AI.det (hnm _) ?_)<;>try simp -implicitDefEqProofs only [hj,hm1,V8,LK,decide_eq_false h40,AP,DS,DR,At,Au,go_sem])|fail))
  exact hno _
 |true=>
 rw [hnk] at hnm
 by_cases hk10:10 < ks.length
 · (repeat' (first|refine Run.ct rfl ?_|((first|refine Run.reg mixed ?_|refine Run.AD ?_|(refine Run.A1 Dk (AF.le_refl _) ?_)|refine AI.det (hnm _) ?_)<;>try simp -implicitDefEqProofs only [hj,hm1,V8,LK,decide_eq_false h40,cA,AA,decide_eq_true hk10,AP,DS,DR,At,Au,go_sem])|fail))
   exact hno _
 by_cases ha10:10 < al.length
 · (repeat' (first|refine Run.ct rfl ?_|((first|refine Run.reg mixed ?_|refine Run.AD ?_|(refine Run.A1 Dk (AF.le_refl _) ?_)|refine AI.det (hnm _) ?_)<;>try simp -implicitDefEqProofs only [hj,hm1,V8,LK,decide_eq_false h40,cA,AA,decide_eq_false hk10,decide_eq_true ha10,AP,DS,DR,At,Au,go_sem])|fail))
   exact hno _
 (repeat' (first|refine Run.ct rfl ?_|((first|refine Run.reg mixed ?_|refine Run.AD ?_|refine AI.det (hnm _) ?_)<;>try simp -implicitDefEqProofs only [hj,hm1,V8,LK,decide_eq_false h40,cA,AA,decide_eq_false hk10,decide_eq_false ha10,AP,DS,DR,At,Au,go_sem])|fail))
 refine Run.Ay ?_
 refine Run.BB ((fun (a1:AV) (a2:AV)=>fun (y:Nat×Nat)=>put 1 a1 (put 2 a2 (put 5 (.d (.int .i64 y.1)) U))) _ _) (fun _=>BA 2 [.d (.int .i64 o),.d (.str n),.d (.int .i64 u),.d (.sl (ns.map Ak)),.d (.sl (ks.map Ex.enc)),.d (.sl (al.map Al.enc))] E) (fun y=>σ.AQ j [.d (.int .i64 y.2)])
  (fun y=>y.1≤ks.length∧(∀t∈ks.take y.1,t.sm)∧Ex.A2 (ks.take y.1)+y.2=q) (fun y=>ks.length - y.1) ?_ (0,q) ⟨by simp,by simp,by simp [Ex.A2]⟩
 rintro ⟨i,q'⟩ ⟨hi,hsm,hsz⟩ ih
 simp only at hi hsm hsz
 by_cases hlt:i < ks.length
 · obtain ⟨x,hx⟩:=Aw hlt
   have he:=Aq (enc:=Ex.enc) hx
   have hw1:=A7 (show i+1≤9000000000000000000 by omega)
   have hxs:=Ex.G2 (AS hx)
   have hc:=ihN x q' (σ.AQ j [.d (.int .i64 q')]) (by omega) (by omega) (by rw [AP,if_pos rfl])
   have hst:=Ex.G7 hx
   have hms:=fun hp=>Ch (p:=Ex.sm) hsm hx hp
   obtain ⟨xo,xn,xu,xns,xks,xal⟩:=x
   simp only [exA,Ex.A3,AH,AM] at he hc
   (repeat' (first|refine Run.ct rfl ?_|((first|refine Run.reg mixed ?_|refine Run.AD ?_|(refine AI.mk rfl hc ?_;rintro v σ' ⟨b,z,⟨rfl,rfl⟩,hres⟩;cases b<;>rw [F6])|(refine Run.A1 Dk (AF.le_refl _) ?_))<;>try simp -implicitDefEqProofs only [A8 hlt,he,hw1,AA,go_sem])|fail))
   · exact hno z
   · obtain ⟨g1,q2,rfl,g2⟩:=hres rfl
     exact ih (i+1,q2) ⟨by simp only;omega,hms g1,by simp only;omega⟩ (by simp only;omega)
 · rw [AG (by omega)] at hsm hsz
   clear ih
   (repeat' (first|refine Run.ct rfl ?_|((first|refine Run.reg mixed ?_|refine Run.AD ?_)<;>try simp -implicitDefEqProofs only [B8 hlt,AA,go_sem])|fail))
   refine Run.Ay ?_
   refine Run.BB ((fun (a1:AV) (a2:AV)=>fun (y:Nat×Nat)=>put 1 a1 (put 2 a2 (put 6 (.d (.int .i64 y.1)) U))) _ _) (fun _=>BA 2 [.d (.int .i64 o),.d (.str n),.d (.int .i64 u),.d (.sl (ns.map Ak)),.d (.sl (ks.map Ex.enc)),.d (.sl (al.map Al.enc))] E) (fun y=>σ.AQ j [.d (.int .i64 y.2)])
    (fun y=>y.1≤al.length∧(∀t∈al.take y.1,t.sm)∧Al.A2 (al.take y.1)+y.2=q') (fun y=>al.length - y.1) ?_ (0,q') ⟨by simp,by simp,by simp [Al.A2]⟩
   rintro ⟨i2,q2⟩ ⟨hi2,hsm2,hsz2⟩ ih
   simp only at hi2 hsm2 hsz2
   by_cases hlt:i2 < al.length
   · obtain ⟨x,hx⟩:=Aw hlt
     have he:=Aq (enc:=Al.enc) hx
     have hw1:=A7 (show i2+1≤9000000000000000000 by omega)
     have hxs:=Al.G2 (AS hx)
     have hst:=Al.G7 hx
     have hms:=fun hp=>Ch (p:=Al.sm) hsm2 hx hp
     obtain ⟨xc,xvs,xb⟩:=x
     rw [Al.size] at hxs hst
     have hc:=ihN xb q2 (σ.AQ j [.d (.int .i64 q2)]) (by omega) (by omega) (by rw [AP,if_pos rfl])
     have hnv:=fun σ=>Iu xvs σ
     obtain ⟨xo,xn,xu,xns,xks,xal⟩:=xb
     simp only [exA,Al.A3,Ex.A3,AH,AM] at he hc
     by_cases hc40:40 < xc.length
     · (repeat' (first|refine Run.ct rfl ?_|((first|refine Run.reg mixed ?_|refine Run.AD ?_|(refine Run.A1 Dk (AF.le_refl _) ?_))<;>try simp -implicitDefEqProofs only [A8 hlt,he,LK,decide_eq_true hc40,AA,go_sem])|fail))
       exact hno _
     cases hvk:(decide (xvs.length≤10)&&Sf xvs) with
     |false=>
      rw [hvk] at hnv
      (repeat' (first|refine Run.ct rfl ?_|((first|refine Run.reg mixed ?_|refine Run.AD ?_|(refine Run.A1 Dk (AF.le_refl _) ?_)|refine AI.det (hnv _) ?_)<;>try simp -implicitDefEqProofs only [A8 hlt,he,LK,decide_eq_false hc40,AA,go_sem])|fail))
      exact hno _
     |true=>
     rw [hvk] at hnv
     (repeat' (first|refine Run.ct rfl ?_|((first|refine Run.reg mixed ?_|refine Run.AD ?_|(refine AI.mk rfl hc ?_;rintro v σ' ⟨b,z,⟨rfl,rfl⟩,hres⟩;cases b<;>rw [F6])|(refine Run.A1 Dk (AF.le_refl _) ?_)|refine AI.det (hnv _) ?_)<;>try simp -implicitDefEqProofs only [A8 hlt,he,hw1,LK,decide_eq_false hc40,AA,go_sem])|fail))
     · exact hno z
     · obtain ⟨g1,q3,rfl,g2⟩:=hres rfl
       exact ih (i2+1,q3) ⟨by simp only;omega,hms (by rw [Al.sm];exact ⟨by omega,Y7 hvk,g1⟩),by simp only;omega⟩ (by simp only;omega)
   · rw [AG (by omega)] at hsm2 hsz2
     (repeat' (first|refine Run.ct rfl ?_|((first|refine Run.reg mixed ?_|refine Run.AD ?_|(refine Run.A1 Dk (AF.le_refl _) ?_))<;>try simp -implicitDefEqProofs only [B8 hlt,AA,go_sem])|fail))
     exact hyes q2 (by omega) (Y7 hnk) hsm hsm2 (by omega)
end Go.Ab
namespace Go.Ab
open Go.Proofs
def CE.sm (c:CE):Prop:=c.name.length≤40∧c.args.length≤10∧∀t∈c.args,t.sm∧t.size≤200
def DE.sm (d:DE):Prop:=d.name.length≤40∧Y8 d.vars∧d.cons.length≤10∧∀c∈d.cons,c.sm
def FE.sm (f:FE):Prop:=f.name.length≤40∧Y8 f.params∧f.body.sm∧f.body.size≤200
def Pg.sm (p:Pg):Prop:=(p.data.length≤14∧∀d∈p.data,d.sm)∧p.Hp.length≤26∧∀f∈p.Hp,f.sm
theorem qD (n:Nat):decide ((14:Int) < (n:Int))=decide (14 < n):=decide_eq_decide.2 (by omega)
theorem r9 (n:Nat):decide ((26:Int) < (n:Int))=decide (26 < n):=decide_eq_decide.2 (by omega)
theorem YV (p:Pg) (σ:AF):AK Tryz.prog 8 [pgA p] σ (fun v σ'=>∃b,(v= .d (.bool b)∧σ'=σ)∧(b=true→p.sm)):=by
 refine Z0 (by simp) ?_
 rw [Bf]
 obtain ⟨ds,fs⟩:=p
 simp only [pgA,Pg.enc,AH,AM]
 generalize hQ:(fun (v:AV) (σ':AF)=>∃b,(v= .d (.bool b)∧σ'=σ)∧(b=true→Pg.sm ⟨ds,fs⟩))=Q
 have hno:Q (.d (.bool false)) σ:=by rw [← hQ];exact ⟨false,⟨rfl,rfl⟩,fun h=>by cases h⟩
 have hyes:Pg.sm ⟨ds,fs⟩→Q (.d (.bool true)) σ:=fun h=>by rw [← hQ];exact ⟨true,⟨rfl,rfl⟩,fun _=>h⟩
 clear hQ
 by_cases hd14:14 < ds.length
 · (repeat' (first|refine Run.ct rfl ?_|((first|refine Run.reg mixed ?_|refine Run.AD ?_|refine Run.Er Cn (AF.le_refl _) ?_)<;>try simp -implicitDefEqProofs only [AA,qD,decide_eq_true hd14,go_sem])|fail))
   exact hno
 by_cases hf26:26 < fs.length
 · (repeat' (first|refine Run.ct rfl ?_|((first|refine Run.reg mixed ?_|refine Run.AD ?_|refine Run.Er Cn (AF.le_refl _) ?_)<;>try simp -implicitDefEqProofs only [AA,qD,decide_eq_false hd14,r9,decide_eq_true hf26,go_sem])|fail))
   exact hno
 (repeat' (first|refine Run.ct rfl ?_|((first|refine Run.reg mixed ?_|refine Run.AD ?_)<;>try simp -implicitDefEqProofs only [AA,qD,decide_eq_false hd14,r9,decide_eq_false hf26,go_sem])|fail))
 rintro j ⟨hj,hjb⟩
 obtain ⟨hle0,hbj⟩:=jT (z:=[AV.d (.int .i64 0)]) (x:=(1,3)) ⟨hj,hjb⟩
 generalize hτ:(σ.AQ j [AV.d (.int .i64 0)]).DO j (1,3)=τ0 at hle0 hbj ⊢
 have hle:∀q:Nat,σ.le (τ0.AQ j [.d (.int .i64 q)]):=fun q=>Dc hle0 hj
 have hbk:∀q:Nat,(τ0.AQ j [.d (.int .i64 q)]).blk j=some [.d (.int .i64 q)]:=fun q=>by rw [AP,if_pos rfl]
 clear hτ
 simp -implicitDefEqProofs only [hbj,DR,go_sem]
 (repeat' (first|refine Run.ct rfl ?_|((first|refine Run.reg mixed ?_|refine Run.AD ?_)<;>try simp -implicitDefEqProofs only [AA,hbj,DR,go_sem])|fail))
 refine Run.Ay ?_
 refine Run.BB ((fun (a1:AV) (a3:AV) (a23:AV) (a24:AV)=>fun (y:Nat×Nat)=>put 1 a1 (put 3 a3 (put 23 a23 (put 24 a24 (put 25 (.d (.int .i64 y.1)) U))))) _ _ _ _) (fun _=>BA 1 [.d (.sl (ds.map DE.enc)),.d (.sl (fs.map FE.enc))] E) (fun y=>τ0.AQ j [.d (.int .i64 y.2)])
  (fun y=>y.1≤ds.length∧y.2≤200∧∀d∈ds.take y.1,d.sm) (fun y=>ds.length - y.1) ?_ (0,200) ⟨by simp,by simp,by simp⟩
 rintro ⟨i,q⟩ ⟨hi,hq,hsm⟩ ih
 simp only at hi hq hsm
 by_cases hlt:i < ds.length
 · obtain ⟨d,hd⟩:=Aw hlt
   have he:=Aq (enc:=DE.enc) hd
   have hw1:=A7 (show i+1≤9000000000000000000 by omega)
   have hms:=fun hp=>Ch (p:=DE.sm) hsm hd hp
   obtain ⟨dn,dvs',dcs⟩:=d
   simp only [DE.enc] at he
   have hnm:=fun σ=>Iu dvs' σ
   by_cases h40:40 < dn.length
   · (repeat' (first|refine Run.ct rfl ?_|((first|refine Run.reg mixed ?_|refine Run.AD ?_|(refine Run.A1 Cn (σ2:=σ) (hle _) ?_))<;>try simp -implicitDefEqProofs only [A8 hlt,he,LK,decide_eq_true h40,AA,go_sem])|fail))
     exact hno
   cases hnk:(decide (dvs'.length≤10)&&Sf dvs') with
   |false=>
    rw [hnk] at hnm
    (repeat' (first|refine Run.ct rfl ?_|((first|refine Run.reg mixed ?_|refine Run.AD ?_|(refine Run.A1 Cn (σ2:=σ) (hle _) ?_)|refine AI.det (hnm _) ?_)<;>try simp -implicitDefEqProofs only [A8 hlt,he,LK,decide_eq_false h40,AA,go_sem])|fail))
    exact hno
   |true=>
   rw [hnk] at hnm
   by_cases hc10:10 < dcs.length
   · (repeat' (first|refine Run.ct rfl ?_|((first|refine Run.reg mixed ?_|refine Run.AD ?_|(refine Run.A1 Cn (σ2:=σ) (hle _) ?_)|refine AI.det (hnm _) ?_)<;>try simp -implicitDefEqProofs only [A8 hlt,he,LK,decide_eq_false h40,cA,decide_eq_true hc10,AA,go_sem])|fail))
     exact hno
   (repeat' (first|refine Run.ct rfl ?_|((first|refine Run.reg mixed ?_|refine Run.AD ?_|refine AI.det (hnm _) ?_)<;>try simp -implicitDefEqProofs only [A8 hlt,he,LK,decide_eq_false h40,cA,decide_eq_false hc10,AA,go_sem])|fail))
   refine Run.Ay ?_
   refine Run.BB ((fun (a1:AV) (a3:AV) (a23:AV) (a24:AV) (a25:AV) (a46:AV) (a47:AV)=>fun (y:Nat×Nat)=>put 1 a1 (put 3 a3 (put 23 a23 (put 24 a24 (put 25 a25 (put 46 a46 (put 47 a47 (put 48 (.d (.int .i64 y.1)) U)))))))) _ _ _ _ _ _ _) (fun _=>BA 1 [.d (.sl (ds.map DE.enc)),.d (.sl (fs.map FE.enc))] E) (fun y=>τ0.AQ j [.d (.int .i64 y.2)])
    (fun y=>y.1≤dcs.length∧y.2≤200∧∀d∈dcs.take y.1,d.sm) (fun y=>dcs.length - y.1) ?_ (0,q) ⟨by simp,hq,by simp⟩
   rintro ⟨i1,q1⟩ ⟨hi1,hq1,hsm1⟩ ih1
   simp only at hi1 hq1 hsm1
   by_cases hlt1:i1 < dcs.length
   · obtain ⟨c,hc⟩:=Aw hlt1
     have he1:=Aq (enc:=CE.enc) hc
     have hw2:=A7 (show i1+1≤9000000000000000000 by omega)
     have hms1:=fun hp=>Ch (p:=CE.sm) hsm1 hc hp
     obtain ⟨cn,ar⟩:=c
     simp only [CE.enc] at he1
     by_cases hcn40:40 < cn.length
     · (repeat' (first|refine Run.ct rfl ?_|((first|refine Run.reg mixed ?_|refine Run.AD ?_|(refine Run.A1 Cn (σ2:=σ) (hle _) ?_))<;>try simp -implicitDefEqProofs only [A8 hlt1,he1,LK,decide_eq_true hcn40,AA,go_sem])|fail))
       exact hno
     by_cases ha10:10 < ar.length
     · (repeat' (first|refine Run.ct rfl ?_|((first|refine Run.reg mixed ?_|refine Run.AD ?_|(refine Run.A1 Cn (σ2:=σ) (hle _) ?_))<;>try simp -implicitDefEqProofs only [A8 hlt1,he1,LK,decide_eq_false hcn40,cA,decide_eq_true ha10,AA,go_sem])|fail))
       exact hno
     (repeat' (first|refine Run.ct rfl ?_|((first|refine Run.reg mixed ?_|refine Run.AD ?_)<;>try simp -implicitDefEqProofs only [A8 hlt1,he1,LK,decide_eq_false hcn40,cA,decide_eq_false ha10,AA,go_sem])|fail))
     refine Run.Ay ?_
     refine Run.BB ((fun (a1:AV) (a3:AV) (a23:AV) (a24:AV) (a25:AV) (a46:AV) (a47:AV) (a48:AV) (a63:AV) (a64:AV)=>fun (y:Nat×Nat)=>put 1 a1 (put 3 a3 (put 23 a23 (put 24 a24 (put 25 a25 (put 46 a46 (put 47 a47 (put 48 a48 (put 63 a63 (put 64 a64 (put 65 (.d (.int .i64 y.1)) U))))))))))) _ _ _ _ _ _ _ _ _ _) (fun _=>BA 1 [.d (.sl (ds.map DE.enc)),.d (.sl (fs.map FE.enc))] E) (fun y=>τ0.AQ j [.d (.int .i64 y.2)])
      (fun y=>y.1≤ar.length∧y.2≤200∧∀t∈ar.take y.1,t.sm∧t.size≤200) (fun y=>ar.length - y.1) ?_ (0,q1) ⟨by simp,hq1,by simp⟩
     rintro ⟨i2,q2⟩ ⟨hi2,hq2,hsm2⟩ ih2
     simp only at hi2 hq2 hsm2
     by_cases hlt2:i2 < ar.length
     · obtain ⟨x,hx⟩:=Aw hlt2
       have he2:=Aq (enc:=TE.enc) hx
       have hw3:=A7 (show i2+1≤9000000000000000000 by omega)
       have hms2:=fun hp=>Ch (p:=fun t=>TE.sm t∧t.size≤200) hsm2 hx hp
       have hcl:=Tq j x.size x q2 (τ0.AQ j [.d (.int .i64 q2)]) (A0 _) (by omega) (hbk q2)
       obtain ⟨xk,xn,xl⟩:=x
       simp only [teA,TE.A3,AH,AM] at he2 hcl
       (repeat' (first|refine Run.ct rfl ?_|((first|refine Run.reg mixed ?_|refine Run.AD ?_|(refine AI.mk rfl hcl ?_;rintro v σ' ⟨b,z,⟨rfl,rfl⟩,hres⟩;cases b<;>rw [F6])|(refine Run.A1 Cn (σ2:=σ) (Dc hle0 hj) ?_))<;>try simp -implicitDefEqProofs only [A8 hlt2,he2,hw3,AA,go_sem])|fail))
       · exact hno
       · obtain ⟨g1,q3,rfl,g2⟩:=hres rfl
         exact ih2 (i2+1,q3) ⟨by simp only;omega,by simp only;omega,hms2 ⟨g1,by omega⟩⟩ (by simp only;omega)
     · rw [AG (by omega)] at hsm2
       (repeat' (first|refine Run.ct rfl ?_|((first|refine Run.reg mixed ?_|refine Run.AD ?_)<;>try simp -implicitDefEqProofs only [B8 hlt2,hw2,AA,go_sem])|fail))
       exact ih1 (i1+1,q2) ⟨by simp only;omega,hq2,hms1 ⟨by simp only;omega,by simp only;omega,hsm2⟩⟩ (by simp only;omega)
   · rw [AG (by omega)] at hsm1
     (repeat' (first|refine Run.ct rfl ?_|((first|refine Run.reg mixed ?_|refine Run.AD ?_)<;>try simp -implicitDefEqProofs only [B8 hlt1,hw1,AA,go_sem])|fail))
     exact ih (i+1,q1) ⟨by simp only;omega,hq1,hms ⟨by simp only;omega,Y7 hnk,by simp only;omega,hsm1⟩⟩ (by simp only;omega)
 · rw [AG (by omega)] at hsm
   clear ih
   (repeat' (first|refine Run.ct rfl ?_|((first|refine Run.reg mixed ?_|refine Run.AD ?_)<;>try simp -implicitDefEqProofs only [B8 hlt,AA,go_sem])|fail))
   refine Run.Ay ?_
   refine Run.BB ((fun (a3:AV) (a76:AV) (a77:AV)=>fun (y:Nat×Nat)=>put 3 a3 (put 76 a76 (put 77 a77 (put 78 (.d (.int .i64 y.1)) U)))) _ _ _) (fun _=>E) (fun y=>τ0.AQ j [.d (.int .i64 y.2)])
    (fun y=>y.1≤fs.length∧y.2≤200∧∀d∈fs.take y.1,d.sm) (fun y=>fs.length - y.1) ?_ (0,q) ⟨by simp,hq,by simp⟩
   rintro ⟨i1,q1⟩ ⟨hi1,hq1,hsm1⟩ ih
   simp only at hi1 hq1 hsm1
   by_cases hlt1:i1 < fs.length
   · obtain ⟨f,hf⟩:=Aw hlt1
     have he:=Aq (enc:=FE.enc) hf
     have hw1:=A7 (show i1+1≤9000000000000000000 by omega)
     have hms:=fun hp=>Ch (p:=FE.sm) hsm1 hf hp
     obtain ⟨fn,fps,fb⟩:=f
     have hnm:=fun σ=>Iu fps σ
     have hcl:=YW j fb.size fb q1 (τ0.AQ j [.d (.int .i64 q1)]) (A0 _) (by omega) (hbk q1)
     obtain ⟨xo,xn,xu,xns,xks,xal⟩:=fb
     simp only [FE.enc,exA,Ex.A3,AH,AM] at he hcl
     by_cases h40:40 < fn.length
     · (repeat' (first|refine Run.ct rfl ?_|((first|refine Run.reg mixed ?_|refine Run.AD ?_|(refine Run.A1 Cn (σ2:=σ) (hle _) ?_))<;>try simp -implicitDefEqProofs only [A8 hlt1,he,LK,decide_eq_true h40,AA,go_sem])|fail))
       exact hno
     cases hnk:(decide (fps.length≤10)&&Sf fps) with
     |false=>
      rw [hnk] at hnm
      (repeat' (first|refine Run.ct rfl ?_|((first|refine Run.reg mixed ?_|refine Run.AD ?_|(refine Run.A1 Cn (σ2:=σ) (hle _) ?_)|refine AI.det (hnm _) ?_)<;>try simp -implicitDefEqProofs only [A8 hlt1,he,LK,decide_eq_false h40,AA,go_sem])|fail))
      exact hno
     |true=>
     rw [hnk] at hnm
     (repeat' (first|refine Run.ct rfl ?_|((first|refine Run.reg mixed ?_|refine Run.AD ?_|(refine AI.mk rfl hcl ?_;rintro v σ' ⟨b,z,⟨rfl,rfl⟩,hres⟩;cases b<;>rw [F6])|(refine Run.A1 Cn (σ2:=σ) (Dc hle0 hj) ?_)|refine AI.det (hnm _) ?_)<;>try simp -implicitDefEqProofs only [A8 hlt1,he,hw1,LK,decide_eq_false h40,AA,go_sem])|fail))
     · exact hno
     · obtain ⟨g1,q3,rfl,g2⟩:=hres rfl
       exact ih (i1+1,q3) ⟨by simp only;omega,by simp only;omega,hms ⟨by simp only;omega,Y7 hnk,g1,by simp only;omega⟩⟩ (by simp only;omega)
   · rw [AG (by omega)] at hsm1
     (repeat' (first|refine Run.ct rfl ?_|((first|refine Run.reg mixed ?_|refine Run.AD ?_|(refine Run.A1 Cn (σ2:=σ) (hle _) ?_))<;>try simp -implicitDefEqProofs only [B8 hlt1,AA,go_sem])|fail))
     exact hyes ⟨⟨by simp only;omega,hsm⟩,by simp only;omega,hsm1⟩
end Go.Ab
