/- The guards on programs: Prog. The law on sizes: SyntaxLimits, over abstract values. The given statement SyntaxLimits, as a card: for every input the law returns true. Conditions: none. -/
import Derived.Test.YtifplkldbbcldaaGreatDoorXPm
set_option linter.unusedSimpArgs false
set_option linter.unusedVariables false
set_option maxRecDepth 4000
set_option maxHeartbeats 8000000
open List renaming map_cons→AF,map_nil→AI,length_map→AE,drop→Gc,take_of_length_le→A8,mem_cons→CK,all_eq_true→A6
open Nat renaming le_refl→A7
open Option.some renaming inj→Ic
namespace Go.Ab
open Go.Proofs
def CE.sm (c:CE):Prop:=c.name.length≤40∧c.args.length≤10∧∀t∈c.args,t.sm∧t.size≤200
def DE.sm (d:DE):Prop:=d.name.length≤40∧mU d.vars∧d.cons.length≤10∧∀c∈d.cons,c.sm
def FE.sm (f:FE):Prop:=f.name.length≤40∧mU f.params∧f.body.sm∧f.body.size≤200
def Pg.sm (p:Pg):Prop:=(p.data.length≤14∧∀d∈p.data,d.sm)∧p.RX.length≤26∧∀f∈p.RX,f.sm
theorem xT (n:Nat):decide ((14:Int) < (n:Int))=decide (14 < n):=decide_eq_decide.2 (by omega)
theorem z8 (n:Nat):decide ((26:Int) < (n:Int))=decide (26 < n):=decide_eq_decide.2 (by omega)
theorem aR (p:Pg) (σ:AN):AQ Tryz.prog 16 [pgA p] σ (fun v σ'=>∃b,(v= .d (.bool b)∧σ'=σ)∧(b=true→p.sm)):=by
 refine cX (by simp) ?_
 rw [BB]
 obtain ⟨ds,fs⟩:=p
 simp only [pgA,Pg.enc,AF,AI]
 generalize hQ:(fun (v:AV) (σ':AN)=>∃b,(v= .d (.bool b)∧σ'=σ)∧(b=true→Pg.sm ⟨ds,fs⟩))=Q
 have hno:Q (.d (.bool false)) σ:=by rw [← hQ];exact ⟨false,⟨rfl,rfl⟩,fun h=>by cases h⟩
 have hyes:Pg.sm ⟨ds,fs⟩→Q (.d (.bool true)) σ:=fun h=>by rw [← hQ];exact ⟨true,⟨rfl,rfl⟩,fun _=>h⟩
 clear hQ
 by_cases hd14:14 < ds.length
 · (repeat' (first|refine Run.ct rfl ?_|((first|refine Run.reg mixed ?_|refine Run.AL ?_|refine Run.F7 Cq (AN.le_refl _) ?_|(refine AR rfl (fun h=>?_) (fun h=>?_)<;>try (cases h;done)))<;>try simp -implicitDefEqProofs only [AE,xT,decide_eq_true hd14,go_sem])|(refine ⟨fun h=>?_,fun h=>?_⟩<;>first|(cases h;done)|try simp only [h])|fail))
   exact hno
 by_cases hf26:26 < fs.length
 · (repeat' (first|refine Run.ct rfl ?_|((first|refine Run.reg mixed ?_|refine Run.AL ?_|refine Run.F7 Cq (AN.le_refl _) ?_|(refine AR rfl (fun h=>?_) (fun h=>?_)<;>try (cases h;done)))<;>try simp -implicitDefEqProofs only [AE,xT,decide_eq_false hd14,z8,decide_eq_true hf26,go_sem])|(refine ⟨fun h=>?_,fun h=>?_⟩<;>first|(cases h;done)|try simp only [h])|fail))
   exact hno
 (repeat' (first|refine Run.ct rfl ?_|((first|refine Run.reg mixed ?_|refine Run.AL ?_|(refine AR rfl (fun h=>?_) (fun h=>?_)<;>try (cases h;done)))<;>try simp -implicitDefEqProofs only [AE,xT,decide_eq_false hd14,z8,decide_eq_false hf26,go_sem])|(refine ⟨fun h=>?_,fun h=>?_⟩<;>first|(cases h;done)|try simp only [h])|fail))
 rintro j ⟨hj,hjb⟩
 obtain ⟨hle0,hbj⟩:=oJ (z:=[AV.d (.int .i64 0)]) (x:=(1,3)) ⟨hj,hjb⟩
 generalize hτ:(σ.AK j [AV.d (.int .i64 0)]).GO j (1,3)=τ0 at hle0 hbj ⊢
 have hle:∀q:Nat,σ.le (τ0.AK j [.d (.int .i64 q)]):=fun q=>Xk hle0 hj
 have hbk:∀q:Nat,(τ0.AK j [.d (.int .i64 q)]).blk j=some [.d (.int .i64 q)]:=fun q=>by rw [AO,if_pos rfl]
 clear hτ
 simp -implicitDefEqProofs only [hbj,Gc,go_sem]
 (repeat' (first|refine Run.ct rfl ?_|((first|refine Run.reg mixed ?_|refine Run.AL ?_|(refine AR rfl (fun h=>?_) (fun h=>?_)<;>try (cases h;done)))<;>try simp -implicitDefEqProofs only [AE,hbj,Gc,go_sem])|(refine ⟨fun h=>?_,fun h=>?_⟩<;>first|(cases h;done)|try simp only [h])|fail))
 refine Run.Bb ?_
 refine Run.Bh ((fun (a1:AV) (a3:AV) (a23:AV) (a24:AV)=>fun (y:Nat×Nat)=>put 1 a1 (put 3 a3 (put 23 a23 (put 24 a24 (put 25 (.d (.int .i64 y.1)) U))))) _ _ _ _) (fun _=>B4 1 [.d (.sl (ds.map DE.enc)),.d (.sl (fs.map FE.enc))] E) (fun y=>τ0.AK j [.d (.int .i64 y.2)])
  (fun y=>y.1≤ds.length∧y.2≤200∧∀d∈ds.take y.1,d.sm) (fun y=>ds.length - y.1) ?_ (0,200) ⟨by simp,by simp,by simp⟩
 rintro ⟨i,q⟩ ⟨hi,hq,hsm⟩ ih
 simp only at hi hq hsm
 by_cases hlt:i < ds.length
 · obtain ⟨d,hd⟩:=Cd hlt
   have he:=C5 (enc:=DE.enc) hd
   have hw1:=BN (show i+1≤9000000000000000000 by omega)
   have hms:=fun hp=>FL (p:=DE.sm) hsm hd hp
   obtain ⟨dn,dvs',dcs⟩:=d
   simp only [DE.enc] at he
   have hnm:=fun σ=>KO dvs' σ
   by_cases h40:40 < dn.length
   · (repeat' (first|refine Run.ct rfl ?_|((first|refine Run.reg mixed ?_|refine Run.AL ?_|(refine Run.Ad Cq (σ2:=σ) (hle _) ?_)|(refine AR rfl (fun h=>?_) (fun h=>?_)<;>try (cases h;done)))<;>try simp -implicitDefEqProofs only [BU hlt,he,NR,decide_eq_true h40,AE,go_sem])|(refine ⟨fun h=>?_,fun h=>?_⟩<;>first|(cases h;done)|try simp only [h])|fail))
     exact hno
   cases hnk:(decide (dvs'.length≤10)&&VV dvs') with
   |false=>
    rw [hnk] at hnm
    (repeat' (first|refine Run.ct rfl ?_|((first|refine Run.reg mixed ?_|refine Run.AL ?_|(refine Run.Ad Cq (σ2:=σ) (hle _) ?_)|refine AH.det (hnm _) ?_|(refine AR rfl (fun h=>?_) (fun h=>?_)<;>try (cases h;done)))<;>try simp -implicitDefEqProofs only [BU hlt,he,NR,decide_eq_false h40,AE,go_sem])|(refine ⟨fun h=>?_,fun h=>?_⟩<;>first|(cases h;done)|try simp only [h])|fail))
    exact hno
   |true=>
   rw [hnk] at hnm
   by_cases hc10:10 < dcs.length
   · (repeat' (first|refine Run.ct rfl ?_|((first|refine Run.reg mixed ?_|refine Run.AL ?_|(refine Run.Ad Cq (σ2:=σ) (hle _) ?_)|refine AH.det (hnm _) ?_|(refine AR rfl (fun h=>?_) (fun h=>?_)<;>try (cases h;done)))<;>try simp -implicitDefEqProofs only [BU hlt,he,NR,decide_eq_false h40,gJ,decide_eq_true hc10,AE,go_sem])|(refine ⟨fun h=>?_,fun h=>?_⟩<;>first|(cases h;done)|try simp only [h])|fail))
     exact hno
   (repeat' (first|refine Run.ct rfl ?_|((first|refine Run.reg mixed ?_|refine Run.AL ?_|refine AH.det (hnm _) ?_|(refine AR rfl (fun h=>?_) (fun h=>?_)<;>try (cases h;done)))<;>try simp -implicitDefEqProofs only [BU hlt,he,NR,decide_eq_false h40,gJ,decide_eq_false hc10,AE,go_sem])|(refine ⟨fun h=>?_,fun h=>?_⟩<;>first|(cases h;done)|try simp only [h])|fail))
   refine Run.Bb ?_
   refine Run.Bh ((fun (a1:AV) (a3:AV) (a23:AV) (a24:AV) (a25:AV) (a46:AV) (a47:AV)=>fun (y:Nat×Nat)=>put 1 a1 (put 3 a3 (put 23 a23 (put 24 a24 (put 25 a25 (put 46 a46 (put 47 a47 (put 48 (.d (.int .i64 y.1)) U)))))))) _ _ _ _ _ _ _) (fun _=>B4 1 [.d (.sl (ds.map DE.enc)),.d (.sl (fs.map FE.enc))] E) (fun y=>τ0.AK j [.d (.int .i64 y.2)])
    (fun y=>y.1≤dcs.length∧y.2≤200∧∀d∈dcs.take y.1,d.sm) (fun y=>dcs.length - y.1) ?_ (0,q) ⟨by simp,hq,by simp⟩
   rintro ⟨i1,q1⟩ ⟨hi1,hq1,hsm1⟩ ih1
   simp only at hi1 hq1 hsm1
   by_cases hlt1:i1 < dcs.length
   · obtain ⟨c,hc⟩:=Cd hlt1
     have he1:=C5 (enc:=CE.enc) hc
     have hw2:=BN (show i1+1≤9000000000000000000 by omega)
     have hms1:=fun hp=>FL (p:=CE.sm) hsm1 hc hp
     obtain ⟨cn,ar⟩:=c
     simp only [CE.enc] at he1
     by_cases hcn40:40 < cn.length
     · (repeat' (first|refine Run.ct rfl ?_|((first|refine Run.reg mixed ?_|refine Run.AL ?_|(refine Run.Ad Cq (σ2:=σ) (hle _) ?_)|(refine AR rfl (fun h=>?_) (fun h=>?_)<;>try (cases h;done)))<;>try simp -implicitDefEqProofs only [BU hlt1,he1,NR,decide_eq_true hcn40,AE,go_sem])|(refine ⟨fun h=>?_,fun h=>?_⟩<;>first|(cases h;done)|try simp only [h])|fail))
       exact hno
     by_cases ha10:10 < ar.length
     · (repeat' (first|refine Run.ct rfl ?_|((first|refine Run.reg mixed ?_|refine Run.AL ?_|(refine Run.Ad Cq (σ2:=σ) (hle _) ?_)|(refine AR rfl (fun h=>?_) (fun h=>?_)<;>try (cases h;done)))<;>try simp -implicitDefEqProofs only [BU hlt1,he1,NR,decide_eq_false hcn40,gJ,decide_eq_true ha10,AE,go_sem])|(refine ⟨fun h=>?_,fun h=>?_⟩<;>first|(cases h;done)|try simp only [h])|fail))
       exact hno
     (repeat' (first|refine Run.ct rfl ?_|((first|refine Run.reg mixed ?_|refine Run.AL ?_|(refine AR rfl (fun h=>?_) (fun h=>?_)<;>try (cases h;done)))<;>try simp -implicitDefEqProofs only [BU hlt1,he1,NR,decide_eq_false hcn40,gJ,decide_eq_false ha10,AE,go_sem])|(refine ⟨fun h=>?_,fun h=>?_⟩<;>first|(cases h;done)|try simp only [h])|fail))
     refine Run.Bb ?_
     refine Run.Bh ((fun (a1:AV) (a3:AV) (a23:AV) (a24:AV) (a25:AV) (a46:AV) (a47:AV) (a48:AV) (a63:AV) (a64:AV)=>fun (y:Nat×Nat)=>put 1 a1 (put 3 a3 (put 23 a23 (put 24 a24 (put 25 a25 (put 46 a46 (put 47 a47 (put 48 a48 (put 63 a63 (put 64 a64 (put 65 (.d (.int .i64 y.1)) U))))))))))) _ _ _ _ _ _ _ _ _ _) (fun _=>B4 1 [.d (.sl (ds.map DE.enc)),.d (.sl (fs.map FE.enc))] E) (fun y=>τ0.AK j [.d (.int .i64 y.2)])
      (fun y=>y.1≤ar.length∧y.2≤200∧∀t∈ar.take y.1,t.sm∧t.size≤200) (fun y=>ar.length - y.1) ?_ (0,q1) ⟨by simp,hq1,by simp⟩
     rintro ⟨i2,q2⟩ ⟨hi2,hq2,hsm2⟩ ih2
     simp only at hi2 hq2 hsm2
     by_cases hlt2:i2 < ar.length
     · obtain ⟨x,hx⟩:=Cd hlt2
       have he2:=C5 (enc:=TE.enc) hx
       have hw3:=BN (show i2+1≤9000000000000000000 by omega)
       have hms2:=fun hp=>FL (p:=fun t=>TE.sm t∧t.size≤200) hsm2 hx hp
       have hcl:=WS j x.size x q2 (τ0.AK j [.d (.int .i64 q2)]) (A7 _) (by omega) (hbk q2)
       obtain ⟨xk,xn,xl⟩:=x
       simp only [teA,TE.A2,AF,AI] at he2 hcl
       (repeat' (first|refine Run.ct rfl ?_|((first|refine Run.reg mixed ?_|refine Run.AL ?_|(refine AH.mk rfl hcl ?_;rintro v σ' ⟨b,z,⟨rfl,rfl⟩,hres⟩;cases b<;>rw [A1])|(refine Run.Ad Cq (σ2:=σ) (Xk hle0 hj) ?_)|(refine AR rfl (fun h=>?_) (fun h=>?_)<;>try (cases h;done)))<;>try simp -implicitDefEqProofs only [BU hlt2,he2,hw3,AE,go_sem])|(refine ⟨fun h=>?_,fun h=>?_⟩<;>first|(cases h;done)|try simp only [h])|fail))
       · exact hno
       · obtain ⟨g1,q3,rfl,g2⟩:=hres rfl
         exact ih2 (i2+1,q3) ⟨by simp only;omega,by simp only;omega,hms2 ⟨g1,by omega⟩⟩ (by simp only;omega)
     · rw [A8 (by omega)] at hsm2
       (repeat' (first|refine Run.ct rfl ?_|((first|refine Run.reg mixed ?_|refine Run.AL ?_|(refine AR rfl (fun h=>?_) (fun h=>?_)<;>try (cases h;done)))<;>try simp -implicitDefEqProofs only [FR hlt2,hw2,AE,go_sem])|(refine ⟨fun h=>?_,fun h=>?_⟩<;>first|(cases h;done)|try simp only [h])|fail))
       exact ih1 (i1+1,q2) ⟨by simp only;omega,hq2,hms1 ⟨by simp only;omega,by simp only;omega,hsm2⟩⟩ (by simp only;omega)
   · rw [A8 (by omega)] at hsm1
     (repeat' (first|refine Run.ct rfl ?_|((first|refine Run.reg mixed ?_|refine Run.AL ?_|(refine AR rfl (fun h=>?_) (fun h=>?_)<;>try (cases h;done)))<;>try simp -implicitDefEqProofs only [FR hlt1,hw1,AE,go_sem])|(refine ⟨fun h=>?_,fun h=>?_⟩<;>first|(cases h;done)|try simp only [h])|fail))
     exact ih (i+1,q1) ⟨by simp only;omega,hq1,hms ⟨by simp only;omega,bC hnk,by simp only;omega,hsm1⟩⟩ (by simp only;omega)
 · rw [A8 (by omega)] at hsm
   clear ih
   (repeat' (first|refine Run.ct rfl ?_|((first|refine Run.reg mixed ?_|refine Run.AL ?_|(refine AR rfl (fun h=>?_) (fun h=>?_)<;>try (cases h;done)))<;>try simp -implicitDefEqProofs only [FR hlt,AE,go_sem])|(refine ⟨fun h=>?_,fun h=>?_⟩<;>first|(cases h;done)|try simp only [h])|fail))
   refine Run.Bb ?_
   refine Run.Bh ((fun (a3:AV) (a76:AV) (a77:AV)=>fun (y:Nat×Nat)=>put 3 a3 (put 76 a76 (put 77 a77 (put 78 (.d (.int .i64 y.1)) U)))) _ _ _) (fun _=>E) (fun y=>τ0.AK j [.d (.int .i64 y.2)])
    (fun y=>y.1≤fs.length∧y.2≤200∧∀d∈fs.take y.1,d.sm) (fun y=>fs.length - y.1) ?_ (0,q) ⟨by simp,hq,by simp⟩
   rintro ⟨i1,q1⟩ ⟨hi1,hq1,hsm1⟩ ih
   simp only at hi1 hq1 hsm1
   by_cases hlt1:i1 < fs.length
   · obtain ⟨f,hf⟩:=Cd hlt1
     have he:=C5 (enc:=FE.enc) hf
     have hw1:=BN (show i1+1≤9000000000000000000 by omega)
     have hms:=fun hp=>FL (p:=FE.sm) hsm1 hf hp
     obtain ⟨fn,fps,fb⟩:=f
     have hnm:=fun σ=>KO fps σ
     have hcl:=aS j fb.size fb q1 (τ0.AK j [.d (.int .i64 q1)]) (A7 _) (by omega) (hbk q1)
     obtain ⟨xo,xn,xu,xns,xks,xal⟩:=fb
     simp only [FE.enc,exA,Ex.A2,AF,AI] at he hcl
     by_cases h40:40 < fn.length
     · (repeat' (first|refine Run.ct rfl ?_|((first|refine Run.reg mixed ?_|refine Run.AL ?_|(refine Run.Ad Cq (σ2:=σ) (hle _) ?_)|(refine AR rfl (fun h=>?_) (fun h=>?_)<;>try (cases h;done)))<;>try simp -implicitDefEqProofs only [BU hlt1,he,NR,decide_eq_true h40,AE,go_sem])|(refine ⟨fun h=>?_,fun h=>?_⟩<;>first|(cases h;done)|try simp only [h])|fail))
       exact hno
     cases hnk:(decide (fps.length≤10)&&VV fps) with
     |false=>
      rw [hnk] at hnm
      (repeat' (first|refine Run.ct rfl ?_|((first|refine Run.reg mixed ?_|refine Run.AL ?_|(refine Run.Ad Cq (σ2:=σ) (hle _) ?_)|refine AH.det (hnm _) ?_|(refine AR rfl (fun h=>?_) (fun h=>?_)<;>try (cases h;done)))<;>try simp -implicitDefEqProofs only [BU hlt1,he,NR,decide_eq_false h40,AE,go_sem])|(refine ⟨fun h=>?_,fun h=>?_⟩<;>first|(cases h;done)|try simp only [h])|fail))
      exact hno
     |true=>
     rw [hnk] at hnm
     (repeat' (first|refine Run.ct rfl ?_|((first|refine Run.reg mixed ?_|refine Run.AL ?_|(refine AH.mk rfl hcl ?_;rintro v σ' ⟨b,z,⟨rfl,rfl⟩,hres⟩;cases b<;>rw [A1])|(refine Run.Ad Cq (σ2:=σ) (Xk hle0 hj) ?_)|refine AH.det (hnm _) ?_|(refine AR rfl (fun h=>?_) (fun h=>?_)<;>try (cases h;done)))<;>try simp -implicitDefEqProofs only [BU hlt1,he,hw1,NR,decide_eq_false h40,AE,go_sem])|(refine ⟨fun h=>?_,fun h=>?_⟩<;>first|(cases h;done)|try simp only [h])|fail))
     · exact hno
     · obtain ⟨g1,q3,rfl,g2⟩:=hres rfl
       exact ih (i1+1,q3) ⟨by simp only;omega,by simp only;omega,hms ⟨by simp only;omega,bC hnk,g1,by simp only;omega⟩⟩ (by simp only;omega)
   · rw [A8 (by omega)] at hsm1
     (repeat' (first|refine Run.ct rfl ?_|((first|refine Run.reg mixed ?_|refine Run.AL ?_|(refine Run.Ad Cq (σ2:=σ) (hle _) ?_)|(refine AR rfl (fun h=>?_) (fun h=>?_)<;>try (cases h;done)))<;>try simp -implicitDefEqProofs only [FR hlt1,AE,go_sem])|(refine ⟨fun h=>?_,fun h=>?_⟩<;>first|(cases h;done)|try simp only [h])|fail))
     exact hyes ⟨⟨by simp only;omega,hsm⟩,by simp only;omega,hsm1⟩
end Go.Ab
namespace Go.Ab
open Go.Proofs
theorem WE (p:Pg) (σ:AN) (hg:Wo σ) (hp:σ.gt Rv=some Tt):AQ Tryz.prog 5 [pgA p] σ (fun v σ'=>v= .d (.bool true)∧σ'=σ):=by
 have hk:=aR p σ
 have haw:=Xj σ hg hp
 refine R0 (by simp) ?_
 rw [BB]
 have hv:=Ld p σ
 have hr:=eD p σ
 obtain ⟨ds,fs⟩:=p
 simp only [pgA,Pg.enc,AF,AI] at hk hv hr ⊢
 (repeat' (first|refine Run.ct rfl ?_|((first|refine Run.reg mixed ?_|refine Run.AL ?_|(refine AH.mk rfl hk ?_;rintro _ σ ⟨b,⟨rfl,rfl⟩,hb⟩;cases b)|(refine Run.Ad Gm (AN.le_refl _) ?_)|(refine AR rfl (fun h=>?_) (fun h=>?_)<;>try (cases h;done)))<;>try simp -implicitDefEqProofs only [go_sem])|(refine ⟨fun h=>?_,fun h=>?_⟩<;>first|(cases h;done)|try simp only [h])|fail))
 have hsm:=hb rfl
 have hsd:∀d∈(⟨ds,fs⟩:Pg).data,Wh d:=fun d hd c hc t ht=>by have:=((hsm.1.2 d hd).2.2.2 c hc).2.2 t ht;omega
 have hv':=hv hsd
 have hr':=hr hsd
 generalize Cw ⟨ds,fs⟩=b at hv' hr'
 cases b
 all_goals (repeat' (first|refine Run.ct rfl ?_|((first|refine Run.reg mixed ?_|refine Run.AL ?_|refine Run.Ad Gm (AN.le_refl _) ?_|refine AH.det (hv') ?_|refine AH.det (hr') ?_|refine AH.det (haw) ?_|(refine AR rfl (fun h=>?_) (fun h=>?_)<;>try (cases h;done)))<;>try simp -implicitDefEqProofs only [go_sem])|(refine ⟨fun h=>?_,fun h=>?_⟩<;>first|(cases h;done)|try simp only [h])|fail))
end Go.Ab
namespace Go.Ab
open Go.Proofs
theorem Us (te:TypeId) (pe:Value) (av:List AV) (h:Wn Tryz.prog [25] av):AQ Tryz.prog 5 av (Lc (gtT te pe)) (fun v _=>v= .d (.bool true)):=by
 obtain ⟨x0,rfl⟩:=sM h
 exact (WE x0 (Lc (gtT te pe)) (tB te pe) (tC te pe)).mono (fun _ _ h=>h.1)
end Go.Ab
namespace Go.Proofs.YtifplkldbbcldaaGreatDoor
open Go.ChangeShapes Go.WideShapes Go.ChangeAt Go.RowKit
set_option maxRecDepth 100000 in
theorem Sw (os:Os) (started:os.Started) (H:Type) (enc:TypeId×Value→H):
 ReturnsInHanded {} Tryz.checked os 5 .any (fun w args=>(Rows.syntaxLimitsSpec.pre enc Tryz.prog Tryz.f5 [] false w args∧laidMetH Tryz.prog dJ w)∧sizedMet enc Tryz.prog Tryz.f5 (OpenSpec.ofChange Rows.syntaxLimitsSpec) false w args)
  (Rows.syntaxLimitsSpec.post enc Tryz.prog Tryz.f5 false true false false):=by
 refine returnsInHanded_of_change_and (C:=Tryz.checked) (X:=fun w _=>laidMetH Tryz.prog dJ w) (fun _ _ _ hh h=>h.of_heap hh) Tryz.own started (by kernel_rfl) Tryz.func5
  (ChangeSpec.witness_shaped (enc:=enc) (C:=Tryz.checked) (os:=os) (X:=fun w _=>laidMetH Tryz.prog dJ w) false (World.doorLaid Tryz.prog 400 os) #[.agg #[.slice none 0 0,.slice none 0 0]] 8 rfl (World.shaped_of_RefB (by kernel_rfl) (by kernel_rfl)) (by kernel_rfl) (by kernel_rfl) (by kernel_rfl) (pC os _)) ?_
 intro W base args ds gs before hval hW _ _ hL _
 obtain ⟨te,pe,hT⟩:=tD hL
 refine Go.Ab.ZB (P:=Tryz.prog) (gt:=Go.Ab.gtT te pe) [25,22,61,9,40,59,72,70,75,3,23,66,44,2,41,42,112] Tryz.laidOut (by kernel_rfl) ?_ ?_ (tb:=4) (by kernel_rfl) Tryz.underlying4 rfl ?_ ?_ W hT base args ds gs before hval hW
 · rw [Tryz.params5];simp
 · rw [Tryz.params5]
   intro t ht
   simp only [CK,List.not_mem_nil,or_false] at ht
   subst ht
   exact ⟨by kernel_rfl,of_decide_eq_true (by kernel_rfl)⟩
 · rw [Tryz.params5]
   intro ds hd
   match ds,hd with
   |[d0],_=>rfl
 · rw [Tryz.params5]
   exact Go.Ab.Us te pe
theorem V9:Rows.SyntaxLimitsSaid:=
 OpenClaim.holds_of_wide 5 Tryz.f5 rfl rfl rfl rfl rfl rfl rfl ⟨rfl,rfl,rfl,rfl,rfl⟩ rfl rfl rfl rfl rfl (by kernel_rfl) Tryz.func5 (by kernel_rfl)
  (of_decide_eq_true (by kernel_rfl)) (by unfold Func.isWrapper;first|(rw [if_pos (by decide+kernel)];kernel_rfl)|(rw [if_neg (by decide+kernel)];exact ⟨rfl,rfl⟩))
  (fun os started H enc _=>Sw os started H enc)
theorem syntaxLimits_holds:Rows.SyntaxLimitsCardSaid:=
 Claim7.holds_tied_plain_at .later [] [.data,.data,.data,.sentinel,.sentinel] true (true,"21a277a3e8a610eced9e93bcce68d99d4ad37844a2772ead4278e0ed35489f0c") true
  V9 (fun _ h=>by cases h) (by kernel_rfl) (fun _ h=>by cases h) syntaxLimits_row_tie rfl ⟨rfl,rfl⟩ (by kernel_rfl) rfl
  (fun f fn hf hfn=>by
    obtain rfl:f=5:=Ic ((show Tryz.prog.funcNamed "amortcost/amortcostlaw04.SyntaxLimits"=some 5 by kernel_rfl).symm.trans hf)|>.symm
    obtain rfl:fn=Tryz.f5:=(Ic (Tryz.func5.symm.trans hfn)).symm
    exact ⟨by kernel_rfl,fun j t ht=>by
     rw [Tryz.params5] at ht
     have hm:t∈[25]:=by simpa using Array.mem_of_getElem? ht
     have hall:([25].all fun u=>!Tryz.prog.wantsStandIn u)=true:=by kernel_rfl
     exact (show Tryz.prog.wantsStandIn t=false by simpa using A6.1 hall t hm)⟩)
  (by kernel_rfl)
end Go.Proofs.YtifplkldbbcldaaGreatDoor
#print axioms Go.Proofs.YtifplkldbbcldaaGreatDoor.syntaxLimits_holds
