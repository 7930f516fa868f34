/- The reference's texts of declarations and programs. Sizes and guards of expressions; the law SyntaxExpressions over abstract values. The given statement SyntaxExpressions, as a card: for every input the law returns true. Conditions: none. -/
import Derived.Test.YtifplkldbbcldaaGreatDoorXRk
set_option linter.unusedSimpArgs false
set_option linter.unusedVariables false
set_option maxRecDepth 4000
set_option maxHeartbeats 8000000
open List renaming map_cons→AF,map_nil→AI,cons_append→A0,nil_append→A3,take_succ_cons→Ci,mem_of_getElem?→Ae,length_map→AG,take_of_length_le→A8,take→L9,drop→Ja,append_nil→A1,mem_cons→CT,all_eq_true→A7
open Bool renaming false_eq_true→AW
open Nat renaming le_refl→A9
open Option.some renaming inj→Iw
namespace Go.Ab
open Go.Proofs
theorem WT (e:Ex) (σ:AM):AP Tryz.prog 24 [exA e] σ (fun v σ'=>v= .d (.str (if C0 (Vw e) then Af e else []))∧σ'=σ):=by
 have hv:=iG (Vw e) σ (fun d hd=>by cases hd)
 refine XI (by simp) ?_
 rw [Av]
 cases hval:C0 (Vw e) with
 |false=>
  rw [hval] at hv
  obtain ⟨ob,nb,ub,nsb,ksb,alb⟩:=e
  simp only [Vw,pgA,Pg.enc,FE.enc,exA,Ex.A2,AF,AI,AW,if_false,A0,A3] at hv ⊢
  have hv':=AP.plain (P:=Tryz.prog) (f:=20) (args:=[.agg [.AY,.d (.sl [[.str [102],.sl [],.int .i64 ob,.str nb,.int .i64 ub,.sl (nsb.map B0),.sl (ksb.map Ex.enc),.sl (alb.map Al.enc)]])]]) (by simp only [AV.Dt,KZ,I0,QV];exact hv)
  (repeat' (first|refine Run.ct rfl ?_|((first|refine Run.reg mixed ?_|refine Run.AJ ?_|(refine Run.Ad Lg (σ2:=σ) (AM.le_refl _) ?_)|refine AH.det (hv') ?_|(refine AQ rfl (fun h=>?_) (fun h=>?_)<;>try (cases h;done)))<;>try simp -implicitDefEqProofs only [go_sem])|(refine ⟨fun h=>?_,fun h=>?_⟩<;>first|(cases h;done)|try simp only [h])|fail))
 |true=>
  rw [hval] at hv
  obtain ⟨hnb,hsz⟩:=nD hval
  have htx:=Ug 600 e hsz (by omega) hnb σ
  generalize Af e=tb at htx ⊢
  obtain ⟨ob,nb,ub,nsb,ksb,alb⟩:=e
  simp only [Vw,pgA,Pg.enc,FE.enc,exA,Ex.A2,AF,AI,if_true,A0,A3] at hv htx ⊢
  have hv':=AP.plain (P:=Tryz.prog) (f:=20) (args:=[.agg [.AY,.d (.sl [[.str [102],.sl [],.int .i64 ob,.str nb,.int .i64 ub,.sl (nsb.map B0),.sl (ksb.map Ex.enc),.sl (alb.map Al.enc)]])]]) (by simp only [AV.Dt,KZ,I0,QV];exact hv)
  (repeat' (first|refine Run.ct rfl ?_|((first|refine Run.reg mixed ?_|refine Run.AJ ?_|(refine Run.Ad Lg (σ2:=σ) (AM.le_refl _) ?_)|refine AH.det (hv') ?_|refine AH.det (htx) ?_|(refine AQ rfl (fun h=>?_) (fun h=>?_)<;>try (cases h;done)))<;>try simp -implicitDefEqProofs only [go_sem])|(refine ⟨fun h=>?_,fun h=>?_⟩<;>first|(cases h;done)|try simp only [h])|fail))
end Go.Ab
namespace Go.Ab
open Go.Proofs
theorem Ex.N0:∀(l:List Ex) (i:Nat),Ex.Ar (l.take i)≤Ex.Ar l
 |[],i=>by simp
 |x::l,0=>by simp [Ex.Ar]
 |x::l,i+1=>by
  have:=Ex.N0 l i
  rw [Ci,Ex.Ar,Ex.Ar];omega
theorem Al.N0:∀(l:List Al) (i:Nat),Al.Ar (l.take i)≤Al.Ar l
 |[],i=>by simp
 |x::l,0=>by simp [Al.Ar]
 |x::l,i+1=>by
  have:=Al.N0 l i
  rw [Ci,Al.Ar,Al.Ar];omega
set_option maxHeartbeats 4000000 in
theorem S8:∀(s:Nat) (e:Ex),e.size≤s→s≤100000→∀σ,AP Tryz.prog 26 [exA e] σ (fun v σ'=>v= .d (.int .i64 ((e.size:Nat):Int))∧σ'=σ)
 |0,e,hs,_,_=>by have:=e.size_pos;omega
 |s+1,.mk o n u ns ks al,hs,hz,σ=>by
  simp only [Ex.size] at hs
  have hks7:ks.length≤100000:=by have:=Ex.Ds ks;omega
  have hal7:al.length≤100000:=by have:=Al.Ds al;omega
  refine kN (by simp) ?_
  rw [Av,Ex.size]
  simp only [exA,Ex.A2,AF,AI]
  (repeat' (first|refine Run.ct rfl ?_|((first|refine Run.reg mixed ?_|refine Run.AJ ?_|(refine AQ rfl (fun h=>?_) (fun h=>?_)<;>try (cases h;done)))<;>try simp -implicitDefEqProofs only [go_sem])|(refine ⟨fun h=>?_,fun h=>?_⟩<;>first|(cases h;done)|try simp only [h])|fail))
  refine Run.Ba ?_
  refine Run.Bd ((fun (a1:AV)=>fun (y:Nat×Nat)=>put 1 a1 (put 3 (.d (.int .i64 (y.2:Nat))) (put 4 (.d (.int .i64 (y.1:Nat))) U))) _) (fun _=>B8 1 [.d (.int .i64 o),.d (.str n),.d (.int .i64 u),.d (.sl (ns.map B0)),.d (.sl (ks.map Ex.enc)),.d (.sl (al.map Al.enc))] E) (fun _=>σ) (fun y=>y.1≤ks.length∧y.2=1+Ex.Ar (ks.take y.1)) (fun y=>ks.length - y.1) ?_ (0,1) ⟨by simp,by simp [Ex.Ar]⟩
  rintro ⟨i,q⟩ ⟨hi,hq⟩ ih
  simp only at hi hq
  by_cases hlt:i < ks.length
  · obtain ⟨x,hx⟩:=C7 hlt
    have he:=CR (enc:=Ex.enc) hx
    have hw1:=BU (show i+1≤9000000000000000000 by omega)
    have hxs:=Ex.KS (Ae hx)
    have hst:=Ex.GU hx
    have htl:=Ex.N0 ks (i+1)
    have hc:=S8 s x (by omega) (by omega) σ
    have hw2:IntKind.i64.wrap ((q:Int)+((x.size:Nat):Int))=((q+x.size:Nat):Int):=wrap_add (by omega)
    have hih:=ih (i+1,q+x.size) ⟨by simp only;omega,by simp only;omega⟩ (by simp only;omega)
    generalize x.size=z at *
    obtain ⟨o1,n1,u1,ns1,ks1,al1⟩:=x
    simp only [exA,Ex.A2,AF,AI] at he hc
    (repeat' (first|refine Run.ct rfl ?_|((first|refine Run.reg mixed ?_|refine Run.AJ ?_|refine AH.det (hc) ?_|(refine AQ rfl (fun h=>?_) (fun h=>?_)<;>try (cases h;done)))<;>try simp -implicitDefEqProofs only [BZ hlt,he,hw1,hw2,AG,go_sem])|(refine ⟨fun h=>?_,fun h=>?_⟩<;>first|(cases h;done)|try simp only [h])|fail))
    exact hih
  · rw [A8 (by omega)] at hq
    clear ih
    (repeat' (first|refine Run.ct rfl ?_|((first|refine Run.reg mixed ?_|refine Run.AJ ?_|(refine AQ rfl (fun h=>?_) (fun h=>?_)<;>try (cases h;done)))<;>try simp -implicitDefEqProofs only [FD hlt,AG,go_sem])|(refine ⟨fun h=>?_,fun h=>?_⟩<;>first|(cases h;done)|try simp only [h])|fail))
    refine Run.Ba ?_
    refine Run.Bd ((fun (a1:AV)=>fun (y:Nat×Nat)=>put 1 a1 (put 3 (.d (.int .i64 (y.2:Nat))) (put 5 (.d (.int .i64 (y.1:Nat))) U))) _) (fun _=>B8 1 [.d (.int .i64 o),.d (.str n),.d (.int .i64 u),.d (.sl (ns.map B0)),.d (.sl (ks.map Ex.enc)),.d (.sl (al.map Al.enc))] E) (fun _=>σ) (fun y=>y.1≤al.length∧y.2=q+Al.Ar (al.take y.1)) (fun y=>al.length - y.1) ?_ (0,q) ⟨by simp,by simp [Al.Ar]⟩
    rintro ⟨i2,q2⟩ ⟨hi2,hq2⟩ ih
    simp only at hi2 hq2
    by_cases hlt2:i2 < al.length
    · obtain ⟨x,hx⟩:=C7 hlt2
      have he:=CR (enc:=Al.enc) hx
      have hw1:=BU (show i2+1≤9000000000000000000 by omega)
      have hxs:=Al.KS (Ae hx)
      have hst:=Al.GU hx
      have htl:=Al.N0 al (i2+1)
      obtain ⟨xc,xvs,xb⟩:=x
      rw [Al.size] at hxs hst
      have hc:=S8 s xb (by omega) (by omega) σ
      have hw2:IntKind.i64.wrap ((q2:Int)+((xb.size:Nat):Int))=((q2+xb.size:Nat):Int):=wrap_add (by omega)
      have hih:=ih (i2+1,q2+xb.size) ⟨by simp only;omega,by simp only;omega⟩ (by simp only;omega)
      generalize xb.size=z at *
      obtain ⟨o1,n1,u1,ns1,ks1,al1⟩:=xb
      simp only [exA,Al.A2,Ex.A2,AF,AI] at he hc
      (repeat' (first|refine Run.ct rfl ?_|((first|refine Run.reg mixed ?_|refine Run.AJ ?_|refine AH.det (hc) ?_|(refine AQ rfl (fun h=>?_) (fun h=>?_)<;>try (cases h;done)))<;>try simp -implicitDefEqProofs only [BZ hlt2,he,hw1,hw2,AG,go_sem])|(refine ⟨fun h=>?_,fun h=>?_⟩<;>first|(cases h;done)|try simp only [h])|fail))
      exact hih
    · rw [A8 (by omega)] at hq2
      have hqf:1+Ex.Ar ks+Al.Ar al=q2:=by omega
      rw [hqf]
      (repeat' (first|refine Run.ct rfl ?_|((first|refine Run.reg mixed ?_|refine Run.AJ ?_|(refine Run.Ad Y4 (σ2:=σ) (AM.le_refl _) ?_)|(refine AQ rfl (fun h=>?_) (fun h=>?_)<;>try (cases h;done)))<;>try simp -implicitDefEqProofs only [FD hlt2,AG,go_sem])|(refine ⟨fun h=>?_,fun h=>?_⟩<;>first|(cases h;done)|try simp only [h])|fail))
set_option maxHeartbeats 4000000 in
theorem MA:∀(s:Nat) (e:Ex),e.size≤s→s≤100000→∀σ,AP Tryz.prog 25 [exA e] σ (fun v σ'=>v= .d (.int .i64 ((e.size:Nat):Int))∧σ'=σ)
 |0,e,hs,_,_=>by have:=e.size_pos;omega
 |s+1,.mk o n u ns ks al,hs,hz,σ=>by
  simp only [Ex.size] at hs
  have hks7:ks.length≤100000:=by have:=Ex.Ds ks;omega
  have hal7:al.length≤100000:=by have:=Al.Ds al;omega
  refine Y9 (by simp) ?_
  rw [Av,Ex.size]
  simp only [exA,Ex.A2,AF,AI]
  (repeat' (first|refine Run.ct rfl ?_|((first|refine Run.reg mixed ?_|refine Run.AJ ?_|(refine AQ rfl (fun h=>?_) (fun h=>?_)<;>try (cases h;done)))<;>try simp -implicitDefEqProofs only [AG,go_sem])|(refine ⟨fun h=>?_,fun h=>?_⟩<;>first|(cases h;done)|try simp only [h])|fail))
  refine Run.Ba ?_
  refine Run.Bd ((fun (a1:AV) (a9:AV) (a10:AV)=>fun (y:Nat×Nat)=>put 1 a1 (put 3 (.d (.int .i64 (y.2:Nat))) (put 9 a9 (put 10 a10 (put 11 (.d (.int .i64 (y.1:Nat))) U))))) _ _ _) (fun _=>B8 1 [.d (.int .i64 o),.d (.str n),.d (.int .i64 u),.d (.sl (ns.map B0)),.d (.sl (ks.map Ex.enc)),.d (.sl (al.map Al.enc))] E) (fun _=>σ) (fun y=>y.1≤ks.length∧y.2=1+Ex.Ar (ks.take y.1)) (fun y=>ks.length - y.1) ?_ (0,1) ⟨by simp,by simp [Ex.Ar]⟩
  rintro ⟨i,q⟩ ⟨hi,hq⟩ ih
  simp only at hi hq
  by_cases hlt:i < ks.length
  · obtain ⟨x,hx⟩:=C7 hlt
    have he:=CR (enc:=Ex.enc) hx
    have hw1:=BU (show i+1≤9000000000000000000 by omega)
    have hxs:=Ex.KS (Ae hx)
    have hst:=Ex.GU hx
    have htl:=Ex.N0 ks (i+1)
    have hc:=MA s x (by omega) (by omega) σ
    have hw2:IntKind.i64.wrap ((q:Int)+((x.size:Nat):Int))=((q+x.size:Nat):Int):=wrap_add (by omega)
    have hih:=ih (i+1,q+x.size) ⟨by simp only;omega,by simp only;omega⟩ (by simp only;omega)
    generalize x.size=z at *
    obtain ⟨o1,n1,u1,ns1,ks1,al1⟩:=x
    simp only [exA,Ex.A2,AF,AI] at he hc
    (repeat' (first|refine Run.ct rfl ?_|((first|refine Run.reg mixed ?_|refine Run.AJ ?_|refine AH.det (hc) ?_|(refine AQ rfl (fun h=>?_) (fun h=>?_)<;>try (cases h;done)))<;>try simp -implicitDefEqProofs only [BZ hlt,he,hw1,hw2,AG,go_sem])|(refine ⟨fun h=>?_,fun h=>?_⟩<;>first|(cases h;done)|try simp only [h])|fail))
    exact hih
  · rw [A8 (by omega)] at hq
    clear ih
    (repeat' (first|refine Run.ct rfl ?_|((first|refine Run.reg mixed ?_|refine Run.AJ ?_|(refine AQ rfl (fun h=>?_) (fun h=>?_)<;>try (cases h;done)))<;>try simp -implicitDefEqProofs only [FD hlt,AG,go_sem])|(refine ⟨fun h=>?_,fun h=>?_⟩<;>first|(cases h;done)|try simp only [h])|fail))
    refine Run.Ba ?_
    refine Run.Bd ((fun (a21:AV) (a22:AV)=>fun (y:Nat×Nat)=>put 3 (.d (.int .i64 (y.2:Nat))) (put 21 a21 (put 22 a22 (put 23 (.d (.int .i64 (y.1:Nat))) U)))) _ _) (fun _=>E) (fun _=>σ) (fun y=>y.1≤al.length∧y.2=q+Al.Ar (al.take y.1)) (fun y=>al.length - y.1) ?_ (0,q) ⟨by simp,by simp [Al.Ar]⟩
    rintro ⟨i2,q2⟩ ⟨hi2,hq2⟩ ih
    simp only at hi2 hq2
    by_cases hlt2:i2 < al.length
    · obtain ⟨x,hx⟩:=C7 hlt2
      have he:=CR (enc:=Al.enc) hx
      have hw1:=BU (show i2+1≤9000000000000000000 by omega)
      have hxs:=Al.KS (Ae hx)
      have hst:=Al.GU hx
      have htl:=Al.N0 al (i2+1)
      obtain ⟨xc,xvs,xb⟩:=x
      rw [Al.size] at hxs hst
      have hc:=MA s xb (by omega) (by omega) σ
      have hw2:IntKind.i64.wrap ((q2:Int)+((xb.size:Nat):Int))=((q2+xb.size:Nat):Int):=wrap_add (by omega)
      have hih:=ih (i2+1,q2+xb.size) ⟨by simp only;omega,by simp only;omega⟩ (by simp only;omega)
      generalize xb.size=z at *
      obtain ⟨o1,n1,u1,ns1,ks1,al1⟩:=xb
      simp only [exA,Al.A2,Ex.A2,AF,AI] at he hc
      (repeat' (first|refine Run.ct rfl ?_|((first|refine Run.reg mixed ?_|refine Run.AJ ?_|refine AH.det (hc) ?_|(refine AQ rfl (fun h=>?_) (fun h=>?_)<;>try (cases h;done)))<;>try simp -implicitDefEqProofs only [BZ hlt2,he,hw1,hw2,AG,go_sem])|(refine ⟨fun h=>?_,fun h=>?_⟩<;>first|(cases h;done)|try simp only [h])|fail))
      exact hih
    · rw [A8 (by omega)] at hq2
      have hqf:1+Ex.Ar ks+Al.Ar al=q2:=by omega
      rw [hqf]
      (repeat' (first|refine Run.ct rfl ?_|((first|refine Run.reg mixed ?_|refine Run.AJ ?_|(refine Run.Ad Rz (σ2:=σ) (AM.le_refl _) ?_)|(refine AQ rfl (fun h=>?_) (fun h=>?_)<;>try (cases h;done)))<;>try simp -implicitDefEqProofs only [FD hlt2,AG,go_sem])|(refine ⟨fun h=>?_,fun h=>?_⟩<;>first|(cases h;done)|try simp only [h])|fail))
theorem dV (e:Ex) (σ:AM):AP Tryz.prog 22 [exA e] σ (fun v σ'=>∃b,(v= .d (.bool b)∧σ'=σ)∧(b=true→e.size≤200)):=by
 refine gC (by simp) ?_
 rw [Av]
 generalize hQ:(fun (v:AV) (σ':AM)=>∃b,(v= .d (.bool b)∧σ'=σ)∧(b=true→e.size≤200))=Q
 have hfin:∀b:Bool,(b=true→e.size≤200)→Q (.d (.bool b)) σ:=fun b h=>by rw [← hQ];exact ⟨b,⟨rfl,rfl⟩,h⟩
 clear hQ
 have hke:=fun j σ q h1 h2=>dW j e.size e q σ (A9 _) h1 h2
 obtain ⟨o1,n1,u1,ns1,ks1,al1⟩:=e
 simp only [exA,Ex.A2,AF,AI] at hke ⊢
 (repeat' (first|refine Run.ct rfl ?_|((first|refine Run.reg mixed ?_|refine Run.AJ ?_|(refine AQ rfl (fun h=>?_) (fun h=>?_)<;>try (cases h;done)))<;>try simp -implicitDefEqProofs only [go_sem])|(refine ⟨fun h=>?_,fun h=>?_⟩<;>first|(cases h;done)|try simp only [h])|fail))
 rintro j ⟨hj,hjb⟩
 obtain ⟨hle0,hbj⟩:=sB (z:=[AV.d (.int .i64 0)]) (x:=(1,3)) ⟨hj,hjb⟩
 generalize hτ:(σ.AL j [AV.d (.int .i64 0)]).GG j (1,3)=τ0 at hle0 hbj ⊢
 have hle:∀q:Int,σ.le (τ0.AL j [.d (.int .i64 q)]):=fun q=>k6 hle0 hj
 have hbk:∀q:Nat,(τ0.AL j [.d (.int .i64 q)]).blk j=some [.d (.int .i64 q)]:=fun q=>by rw [AO,if_pos rfl]
 clear hτ
 have hc:=hke j (τ0.AL j [.d (.int .i64 (200:Nat))]) 200 (by omega) (hbk 200)
 rw [show (((200:Nat):Int))=200 from rfl] at hc
 simp -implicitDefEqProofs only [hbj,L9,Ja,A3,A1,go_sem]
 (repeat' (first|refine Run.ct rfl ?_|((first|refine Run.reg mixed ?_|refine Run.AJ ?_|(refine AH.mk rfl hc ?_;rintro _ _ ⟨b,z,⟨rfl,rfl⟩,hb⟩;rw [A4])|(refine Run.Ad Wk (σ2:=σ) (hle _) ?_)|(refine AQ rfl (fun h=>?_) (fun h=>?_)<;>try (cases h;done)))<;>try simp -implicitDefEqProofs only [hbj,L9,Ja,A3,A1,go_sem])|(refine ⟨fun h=>?_,fun h=>?_⟩<;>first|(cases h;done)|try simp only [h])|fail))
 refine hfin b (fun h=>?_)
 obtain ⟨_,q',_,hq⟩:=hb h
 omega
theorem Rh (e:Ex) (σ:AM) (hg:Xl σ) (hp:σ.gt RT=some T7):AP Tryz.prog 10 [exA e] σ (fun v σ'=>v= .d (.bool true)∧σ'=σ):=by
 have hk:=dV e σ
 have haw:=Yo σ hg hp
 refine Nl (by simp) ?_
 rw [Av]
 have hf:=Sn e σ hp
 have hr:=WT e σ
 have hn1:=fun h=>MA 200 e h (by omega) σ
 have hn2:=fun h=>S8 200 e h (by omega) σ
 generalize (if C0 (Vw e)=true then Af e else [])=tx at hf hr
 generalize e.size=z at hk hn1 hn2
 obtain ⟨o1,n1,u1,ns1,ks1,al1⟩:=e
 simp only [exA,Ex.A2,AF,AI] at hk hf hr hn1 hn2 ⊢
 (repeat' (first|refine Run.ct rfl ?_|((first|refine Run.reg mixed ?_|refine Run.AJ ?_|(refine AH.mk rfl hk ?_;rintro _ σ ⟨b,⟨rfl,rfl⟩,hb⟩;cases b)|(refine Run.Ad FL (AM.le_refl _) ?_)|(refine AQ rfl (fun h=>?_) (fun h=>?_)<;>try (cases h;done)))<;>try simp -implicitDefEqProofs only [go_sem])|(refine ⟨fun h=>?_,fun h=>?_⟩<;>first|(cases h;done)|try simp only [h])|fail))
 have hsm:=hb rfl
 have hn1':=hn1 hsm
 have hn2':=hn2 hsm
 (repeat' (first|refine Run.ct rfl ?_|((first|refine Run.reg mixed ?_|refine Run.AJ ?_|refine Run.Ad FL (AM.le_refl _) ?_|refine AH.det (hf) ?_|refine AH.det (hr) ?_|refine AH.det (hn1') ?_|refine AH.det (hn2') ?_|refine AH.det (haw) ?_|(refine AQ rfl (fun h=>?_) (fun h=>?_)<;>try (cases h;done)))<;>try simp -implicitDefEqProofs only [EB,beq_self_eq_true,go_sem])|(refine ⟨fun h=>?_,fun h=>?_⟩<;>first|(cases h;done)|try simp only [h])|fail))
end Go.Ab
namespace Go.Ab
open Go.Proofs
theorem Qd (te:TypeId) (pe:Value) (av:List AV) (h:Xk Tryz.prog [44] av):AP Tryz.prog 10 av (Ly (gtT te pe)) (fun v _=>v= .d (.bool true)):=by
 obtain ⟨x0,rfl⟩:=wR h
 exact (Rh x0 (Ly (gtT te pe)) (xC te pe) (xD te pe)).mono (fun _ _ h=>h.1)
end Go.Ab
namespace Go.Proofs.YtifplkldbbcldaaGreatDoor
open Go.ChangeShapes Go.WideShapes Go.ChangeAt Go.RowKit
set_option maxRecDepth 100000 in
theorem Oc (os:Os) (started:os.Started) (H:Type) (enc:TypeId×Value→H):
 ReturnsInHanded {} Tryz.checked os 10 .any (fun w args=>(Rows.syntaxExpressionsSpec.pre enc Tryz.prog Tryz.f10 [] false w args∧laidMetH Tryz.prog gQ w)∧sizedMet enc Tryz.prog Tryz.f10 (OpenSpec.ofChange Rows.syntaxExpressionsSpec) false w args)
  (Rows.syntaxExpressionsSpec.post enc Tryz.prog Tryz.f10 false true false false):=by
 refine returnsInHanded_of_change_and (C:=Tryz.checked) (X:=fun w _=>laidMetH Tryz.prog gQ w) (fun _ _ _ hh h=>h.of_heap hh) Tryz.own started (by kernel_rfl) Tryz.func10
  (ChangeSpec.witness_shaped (enc:=enc) (C:=Tryz.checked) (os:=os) (X:=fun w _=>laidMetH Tryz.prog gQ w) false (World.doorLaid Tryz.prog 400 os) #[.agg #[.int .i64 0,.string ⟨#[]⟩,.int .i64 0,.slice none 0 0,.slice none 0 0,.slice none 0 0]] 8 rfl (World.shaped_of_RefB (by kernel_rfl) (by kernel_rfl)) (by kernel_rfl) (by kernel_rfl) (by kernel_rfl) (sZ os _)) ?_
 intro W base args ds gs before hval hW _ _ hL _
 obtain ⟨te,pe,hT⟩:=xE hL
 refine Go.Ab.aM (P:=Tryz.prog) (gt:=Go.Ab.gtT te pe) [44,3,9,2,40,41,42,112] Tryz.laidOut (by kernel_rfl) ?_ ?_ (tb:=4) (by kernel_rfl) Tryz.underlying4 rfl ?_ ?_ W hT base args ds gs before hval hW
 · rw [Tryz.params10];simp
 · rw [Tryz.params10]
   intro t ht
   simp only [CT,List.not_mem_nil,or_false] at ht
   subst ht
   exact ⟨by kernel_rfl,of_decide_eq_true (by kernel_rfl)⟩
 · rw [Tryz.params10]
   intro ds hd
   match ds,hd with
   |[d0],_=>rfl
 · rw [Tryz.params10]
   exact Go.Ab.Qd te pe
theorem Ra:Rows.SyntaxExpressionsSaid:=
 OpenClaim.holds_of_wide 10 Tryz.f10 rfl rfl rfl rfl rfl rfl rfl ⟨rfl,rfl,rfl,rfl,rfl⟩ rfl rfl rfl rfl rfl (by kernel_rfl) Tryz.func10 (by kernel_rfl)
  (of_decide_eq_true (by kernel_rfl)) (by unfold Func.isWrapper;first|(rw [if_pos (by decide+kernel)];kernel_rfl)|(rw [if_neg (by decide+kernel)];exact ⟨rfl,rfl⟩))
  (fun os started H enc _=>Oc os started H enc)
theorem syntaxExpressions_holds:Rows.SyntaxExpressionsCardSaid:=
 Claim7.holds_tied_plain_at .later [] [.data,.data,.data,.sentinel,.sentinel] true (true,"21a277a3e8a610eced9e93bcce68d99d4ad37844a2772ead4278e0ed35489f0c") true
  Ra (fun _ h=>by cases h) (by kernel_rfl) (fun _ h=>by cases h) syntaxExpressions_row_tie rfl ⟨rfl,rfl⟩ (by kernel_rfl) rfl
  (fun f fn hf hfn=>by
    obtain rfl:f=10:=Iw ((show Tryz.prog.funcNamed "amortcost/amortcostlaw04.SyntaxExpressions"=some 10 by kernel_rfl).symm.trans hf)|>.symm
    obtain rfl:fn=Tryz.f10:=(Iw (Tryz.func10.symm.trans hfn)).symm
    exact ⟨by kernel_rfl,fun j t ht=>by
     rw [Tryz.params10] at ht
     have hm:t∈[44]:=by simpa using Array.mem_of_getElem? ht
     have hall:([44].all fun u=>!Tryz.prog.wantsStandIn u)=true:=by kernel_rfl
     exact (show Tryz.prog.wantsStandIn t=false by simpa using A7.1 hall t hm)⟩)
  (by kernel_rfl)
end Go.Proofs.YtifplkldbbcldaaGreatDoor
#print axioms Go.Proofs.YtifplkldbbcldaaGreatDoor.syntaxExpressions_holds
