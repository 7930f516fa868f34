/- The guards on programs: Prog. The law on sizes: SyntaxLimits, over abstract values. Equality of trees, the reference's. Equality of expressions, the reference's. Conditions: none. -/
import Derived.Test.YtifplkldbbcldaaGreatDoorXPm
set_option linter.unusedSimpArgs false
set_option linter.unusedVariables false
set_option maxRecDepth 4000
set_option maxHeartbeats 8000000
open List renaming map_cons→AF,map_nil→AI,length_map→AB,drop→Gl,take_of_length_le→A8,mem_of_getElem?→Ad
open Nat renaming le_refl→A7
open Classical renaming propDecidable→XN
open Option.some renaming inj→Gm
namespace Go.Ab
open Go.Proofs
def CE.sm (c:CE):Prop:=c.name.length≤40∧c.args.length≤10∧∀t∈c.args,t.sm∧t.size≤200
def DE.sm (d:DE):Prop:=d.name.length≤40∧oK d.vars∧d.cons.length≤10∧∀c∈d.cons,c.sm
def FE.sm (f:FE):Prop:=f.name.length≤40∧oK f.params∧f.body.sm∧f.body.size≤200
def Pg.sm (p:Pg):Prop:=(p.data.length≤14∧∀d∈p.data,d.sm)∧p.Rf.length≤26∧∀f∈p.Rf,f.sm
theorem zH (n:Nat):decide ((14:Int) < (n:Int))=decide (14 < n):=decide_eq_decide.2 (by omega)
theorem ABP (n:Nat):decide ((26:Int) < (n:Int))=decide (26 < n):=decide_eq_decide.2 (by omega)
theorem cB (p:Pg) (σ:AM):AR Tryz.prog 16 [pgA p] σ (fun v σ'=>∃b,(v= .d (.bool b)∧σ'=σ)∧(b=true→p.sm)):=by
 refine eI (by simp) ?_
 rw [BC]
 obtain ⟨ds,fs⟩:=p
 simp only [pgA,Pg.enc,AF,AI]
 generalize hQ:(fun (v:AV) (σ':AM)=>∃b,(v= .d (.bool b)∧σ'=σ)∧(b=true→Pg.sm ⟨ds,fs⟩))=Q
 have hno:Q (.d (.bool false)) σ:=by rw [← hQ];exact ⟨false,⟨rfl,rfl⟩,fun h=>by cases h⟩
 have hyes:Pg.sm ⟨ds,fs⟩→Q (.d (.bool true)) σ:=fun h=>by rw [← hQ];exact ⟨true,⟨rfl,rfl⟩,fun _=>h⟩
 clear hQ
 by_cases hd14:14 < ds.length
 · (repeat' (first|refine Run.ct rfl ?_|((first|refine Run.reg mixed ?_|refine Run.AJ ?_|refine Run.Fe Ct (AM.le_refl _) ?_|(refine AP rfl (fun h=>?_) (fun h=>?_)<;>try (cases h;done)))<;>try simp -implicitDefEqProofs only [AB,zH,decide_eq_true hd14,go_sem])|(refine ⟨fun h=>?_,fun h=>?_⟩<;>first|(cases h;done)|try simp only [h])|fail))
   exact hno
 by_cases hf26:26 < fs.length
 · (repeat' (first|refine Run.ct rfl ?_|((first|refine Run.reg mixed ?_|refine Run.AJ ?_|refine Run.Fe Ct (AM.le_refl _) ?_|(refine AP rfl (fun h=>?_) (fun h=>?_)<;>try (cases h;done)))<;>try simp -implicitDefEqProofs only [AB,zH,decide_eq_false hd14,ABP,decide_eq_true hf26,go_sem])|(refine ⟨fun h=>?_,fun h=>?_⟩<;>first|(cases h;done)|try simp only [h])|fail))
   exact hno
 (repeat' (first|refine Run.ct rfl ?_|((first|refine Run.reg mixed ?_|refine Run.AJ ?_|(refine AP rfl (fun h=>?_) (fun h=>?_)<;>try (cases h;done)))<;>try simp -implicitDefEqProofs only [AB,zH,decide_eq_false hd14,ABP,decide_eq_false hf26,go_sem])|(refine ⟨fun h=>?_,fun h=>?_⟩<;>first|(cases h;done)|try simp only [h])|fail))
 rintro j ⟨hj,hjb⟩
 obtain ⟨hle0,hbj⟩:=pY (z:=[AV.d (.int .i64 0)]) (x:=(1,3)) ⟨hj,hjb⟩
 generalize hτ:(σ.AL j [AV.d (.int .i64 0)]).GX j (1,3)=τ0 at hle0 hbj ⊢
 have hle:∀q:Nat,σ.le (τ0.AL j [.d (.int .i64 q)]):=fun q=>YL hle0 hj
 have hbk:∀q:Nat,(τ0.AL j [.d (.int .i64 q)]).blk j=some [.d (.int .i64 q)]:=fun q=>by rw [AO,if_pos rfl]
 clear hτ
 simp -implicitDefEqProofs only [hbj,Gl,go_sem]
 (repeat' (first|refine Run.ct rfl ?_|((first|refine Run.reg mixed ?_|refine Run.AJ ?_|(refine AP rfl (fun h=>?_) (fun h=>?_)<;>try (cases h;done)))<;>try simp -implicitDefEqProofs only [AB,hbj,Gl,go_sem])|(refine ⟨fun h=>?_,fun h=>?_⟩<;>first|(cases h;done)|try simp only [h])|fail))
 refine Run.B1 ?_
 refine Run.B7 ((fun (a1:AV) (a3:AV) (a23:AV) (a24:AV)=>fun (y:Nat×Nat)=>put 1 a1 (put 3 a3 (put 23 a23 (put 24 a24 (put 25 (.d (.int .i64 y.1)) U))))) _ _ _ _) (fun _=>BW 1 [.d (.sl (ds.map DE.enc)),.d (.sl (fs.map FE.enc))] E) (fun y=>τ0.AL j [.d (.int .i64 y.2)])
  (fun y=>y.1≤ds.length∧y.2≤200∧∀d∈ds.take y.1,d.sm) (fun y=>ds.length - y.1) ?_ (0,200) ⟨by simp,by simp,by simp⟩
 rintro ⟨i,q⟩ ⟨hi,hq,hsm⟩ ih
 simp only at hi hq hsm
 by_cases hlt:i < ds.length
 · obtain ⟨d,hd⟩:=Ba hlt
   have he:=BX (enc:=DE.enc) hd
   have hw1:=BQ (show i+1≤9000000000000000000 by omega)
   have hms:=fun hp=>FT (p:=DE.sm) hsm hd hp
   obtain ⟨dn,dvs',dcs⟩:=d
   simp only [DE.enc] at he
   have hnm:=fun σ=>K0 dvs' σ
   by_cases h40:40 < dn.length
   · (repeat' (first|refine Run.ct rfl ?_|((first|refine Run.reg mixed ?_|refine Run.AJ ?_|(refine Run.Aa Ct (σ2:=σ) (hle _) ?_)|(refine AP rfl (fun h=>?_) (fun h=>?_)<;>try (cases h;done)))<;>try simp -implicitDefEqProofs only [BG hlt,he,N4,decide_eq_true h40,AB,go_sem])|(refine ⟨fun h=>?_,fun h=>?_⟩<;>first|(cases h;done)|try simp only [h])|fail))
     exact hno
   cases hnk:(decide (dvs'.length≤10)&&Vi dvs') with
   |false=>
    rw [hnk] at hnm
    (repeat' (first|refine Run.ct rfl ?_|((first|refine Run.reg mixed ?_|refine Run.AJ ?_|(refine Run.Aa Ct (σ2:=σ) (hle _) ?_)|refine AG.det (hnm _) ?_|(refine AP rfl (fun h=>?_) (fun h=>?_)<;>try (cases h;done)))<;>try simp -implicitDefEqProofs only [BG hlt,he,N4,decide_eq_false h40,AB,go_sem])|(refine ⟨fun h=>?_,fun h=>?_⟩<;>first|(cases h;done)|try simp only [h])|fail))
    exact hno
   |true=>
   rw [hnk] at hnm
   by_cases hc10:10 < dcs.length
   · (repeat' (first|refine Run.ct rfl ?_|((first|refine Run.reg mixed ?_|refine Run.AJ ?_|(refine Run.Aa Ct (σ2:=σ) (hle _) ?_)|refine AG.det (hnm _) ?_|(refine AP rfl (fun h=>?_) (fun h=>?_)<;>try (cases h;done)))<;>try simp -implicitDefEqProofs only [BG hlt,he,N4,decide_eq_false h40,iQ,decide_eq_true hc10,AB,go_sem])|(refine ⟨fun h=>?_,fun h=>?_⟩<;>first|(cases h;done)|try simp only [h])|fail))
     exact hno
   (repeat' (first|refine Run.ct rfl ?_|((first|refine Run.reg mixed ?_|refine Run.AJ ?_|refine AG.det (hnm _) ?_|(refine AP rfl (fun h=>?_) (fun h=>?_)<;>try (cases h;done)))<;>try simp -implicitDefEqProofs only [BG hlt,he,N4,decide_eq_false h40,iQ,decide_eq_false hc10,AB,go_sem])|(refine ⟨fun h=>?_,fun h=>?_⟩<;>first|(cases h;done)|try simp only [h])|fail))
   refine Run.B1 ?_
   refine Run.B7 ((fun (a1:AV) (a3:AV) (a23:AV) (a24:AV) (a25:AV) (a46:AV) (a47:AV)=>fun (y:Nat×Nat)=>put 1 a1 (put 3 a3 (put 23 a23 (put 24 a24 (put 25 a25 (put 46 a46 (put 47 a47 (put 48 (.d (.int .i64 y.1)) U)))))))) _ _ _ _ _ _ _) (fun _=>BW 1 [.d (.sl (ds.map DE.enc)),.d (.sl (fs.map FE.enc))] E) (fun y=>τ0.AL j [.d (.int .i64 y.2)])
    (fun y=>y.1≤dcs.length∧y.2≤200∧∀d∈dcs.take y.1,d.sm) (fun y=>dcs.length - y.1) ?_ (0,q) ⟨by simp,hq,by simp⟩
   rintro ⟨i1,q1⟩ ⟨hi1,hq1,hsm1⟩ ih1
   simp only at hi1 hq1 hsm1
   by_cases hlt1:i1 < dcs.length
   · obtain ⟨c,hc⟩:=Ba hlt1
     have he1:=BX (enc:=CE.enc) hc
     have hw2:=BQ (show i1+1≤9000000000000000000 by omega)
     have hms1:=fun hp=>FT (p:=CE.sm) hsm1 hc hp
     obtain ⟨cn,ar⟩:=c
     simp only [CE.enc] at he1
     by_cases hcn40:40 < cn.length
     · (repeat' (first|refine Run.ct rfl ?_|((first|refine Run.reg mixed ?_|refine Run.AJ ?_|(refine Run.Aa Ct (σ2:=σ) (hle _) ?_)|(refine AP rfl (fun h=>?_) (fun h=>?_)<;>try (cases h;done)))<;>try simp -implicitDefEqProofs only [BG hlt1,he1,N4,decide_eq_true hcn40,AB,go_sem])|(refine ⟨fun h=>?_,fun h=>?_⟩<;>first|(cases h;done)|try simp only [h])|fail))
       exact hno
     by_cases ha10:10 < ar.length
     · (repeat' (first|refine Run.ct rfl ?_|((first|refine Run.reg mixed ?_|refine Run.AJ ?_|(refine Run.Aa Ct (σ2:=σ) (hle _) ?_)|(refine AP rfl (fun h=>?_) (fun h=>?_)<;>try (cases h;done)))<;>try simp -implicitDefEqProofs only [BG hlt1,he1,N4,decide_eq_false hcn40,iQ,decide_eq_true ha10,AB,go_sem])|(refine ⟨fun h=>?_,fun h=>?_⟩<;>first|(cases h;done)|try simp only [h])|fail))
       exact hno
     (repeat' (first|refine Run.ct rfl ?_|((first|refine Run.reg mixed ?_|refine Run.AJ ?_|(refine AP rfl (fun h=>?_) (fun h=>?_)<;>try (cases h;done)))<;>try simp -implicitDefEqProofs only [BG hlt1,he1,N4,decide_eq_false hcn40,iQ,decide_eq_false ha10,AB,go_sem])|(refine ⟨fun h=>?_,fun h=>?_⟩<;>first|(cases h;done)|try simp only [h])|fail))
     refine Run.B1 ?_
     refine Run.B7 ((fun (a1:AV) (a3:AV) (a23:AV) (a24:AV) (a25:AV) (a46:AV) (a47:AV) (a48:AV) (a63:AV) (a64:AV)=>fun (y:Nat×Nat)=>put 1 a1 (put 3 a3 (put 23 a23 (put 24 a24 (put 25 a25 (put 46 a46 (put 47 a47 (put 48 a48 (put 63 a63 (put 64 a64 (put 65 (.d (.int .i64 y.1)) U))))))))))) _ _ _ _ _ _ _ _ _ _) (fun _=>BW 1 [.d (.sl (ds.map DE.enc)),.d (.sl (fs.map FE.enc))] E) (fun y=>τ0.AL j [.d (.int .i64 y.2)])
      (fun y=>y.1≤ar.length∧y.2≤200∧∀t∈ar.take y.1,t.sm∧t.size≤200) (fun y=>ar.length - y.1) ?_ (0,q1) ⟨by simp,hq1,by simp⟩
     rintro ⟨i2,q2⟩ ⟨hi2,hq2,hsm2⟩ ih2
     simp only at hi2 hq2 hsm2
     by_cases hlt2:i2 < ar.length
     · obtain ⟨x,hx⟩:=Ba hlt2
       have he2:=BX (enc:=TE.enc) hx
       have hw3:=BQ (show i2+1≤9000000000000000000 by omega)
       have hms2:=fun hp=>FT (p:=fun t=>TE.sm t∧t.size≤200) hsm2 hx hp
       have hcl:=Wh j x.size x q2 (τ0.AL j [.d (.int .i64 q2)]) (A7 _) (by omega) (hbk q2)
       obtain ⟨xk,xn,xl⟩:=x
       simp only [teA,TE.A1,AF,AI] at he2 hcl
       (repeat' (first|refine Run.ct rfl ?_|((first|refine Run.reg mixed ?_|refine Run.AJ ?_|(refine AG.mk rfl hcl ?_;rintro v σ' ⟨b,z,⟨rfl,rfl⟩,hres⟩;cases b<;>rw [A2])|(refine Run.Aa Ct (σ2:=σ) (YL hle0 hj) ?_)|(refine AP rfl (fun h=>?_) (fun h=>?_)<;>try (cases h;done)))<;>try simp -implicitDefEqProofs only [BG hlt2,he2,hw3,AB,go_sem])|(refine ⟨fun h=>?_,fun h=>?_⟩<;>first|(cases h;done)|try simp only [h])|fail))
       · exact hno
       · obtain ⟨g1,q3,rfl,g2⟩:=hres rfl
         exact ih2 (i2+1,q3) ⟨by simp only;omega,by simp only;omega,hms2 ⟨g1,by omega⟩⟩ (by simp only;omega)
     · rw [A8 (by omega)] at hsm2
       (repeat' (first|refine Run.ct rfl ?_|((first|refine Run.reg mixed ?_|refine Run.AJ ?_|(refine AP rfl (fun h=>?_) (fun h=>?_)<;>try (cases h;done)))<;>try simp -implicitDefEqProofs only [E0 hlt2,hw2,AB,go_sem])|(refine ⟨fun h=>?_,fun h=>?_⟩<;>first|(cases h;done)|try simp only [h])|fail))
       exact ih1 (i1+1,q2) ⟨by simp only;omega,hq2,hms1 ⟨by simp only;omega,by simp only;omega,hsm2⟩⟩ (by simp only;omega)
   · rw [A8 (by omega)] at hsm1
     (repeat' (first|refine Run.ct rfl ?_|((first|refine Run.reg mixed ?_|refine Run.AJ ?_|(refine AP rfl (fun h=>?_) (fun h=>?_)<;>try (cases h;done)))<;>try simp -implicitDefEqProofs only [E0 hlt1,hw1,AB,go_sem])|(refine ⟨fun h=>?_,fun h=>?_⟩<;>first|(cases h;done)|try simp only [h])|fail))
     exact ih (i+1,q1) ⟨by simp only;omega,hq1,hms ⟨by simp only;omega,cN hnk,by simp only;omega,hsm1⟩⟩ (by simp only;omega)
 · rw [A8 (by omega)] at hsm
   clear ih
   (repeat' (first|refine Run.ct rfl ?_|((first|refine Run.reg mixed ?_|refine Run.AJ ?_|(refine AP rfl (fun h=>?_) (fun h=>?_)<;>try (cases h;done)))<;>try simp -implicitDefEqProofs only [E0 hlt,AB,go_sem])|(refine ⟨fun h=>?_,fun h=>?_⟩<;>first|(cases h;done)|try simp only [h])|fail))
   refine Run.B1 ?_
   refine Run.B7 ((fun (a3:AV) (a76:AV) (a77:AV)=>fun (y:Nat×Nat)=>put 3 a3 (put 76 a76 (put 77 a77 (put 78 (.d (.int .i64 y.1)) U)))) _ _ _) (fun _=>E) (fun y=>τ0.AL j [.d (.int .i64 y.2)])
    (fun y=>y.1≤fs.length∧y.2≤200∧∀d∈fs.take y.1,d.sm) (fun y=>fs.length - y.1) ?_ (0,q) ⟨by simp,hq,by simp⟩
   rintro ⟨i1,q1⟩ ⟨hi1,hq1,hsm1⟩ ih
   simp only at hi1 hq1 hsm1
   by_cases hlt1:i1 < fs.length
   · obtain ⟨f,hf⟩:=Ba hlt1
     have he:=BX (enc:=FE.enc) hf
     have hw1:=BQ (show i1+1≤9000000000000000000 by omega)
     have hms:=fun hp=>FT (p:=FE.sm) hsm1 hf hp
     obtain ⟨fn,fps,fb⟩:=f
     have hnm:=fun σ=>K0 fps σ
     have hcl:=cC j fb.size fb q1 (τ0.AL j [.d (.int .i64 q1)]) (A7 _) (by omega) (hbk q1)
     obtain ⟨xo,xn,xu,xns,xks,xal⟩:=fb
     simp only [FE.enc,exA,Ex.A1,AF,AI] at he hcl
     by_cases h40:40 < fn.length
     · (repeat' (first|refine Run.ct rfl ?_|((first|refine Run.reg mixed ?_|refine Run.AJ ?_|(refine Run.Aa Ct (σ2:=σ) (hle _) ?_)|(refine AP rfl (fun h=>?_) (fun h=>?_)<;>try (cases h;done)))<;>try simp -implicitDefEqProofs only [BG hlt1,he,N4,decide_eq_true h40,AB,go_sem])|(refine ⟨fun h=>?_,fun h=>?_⟩<;>first|(cases h;done)|try simp only [h])|fail))
       exact hno
     cases hnk:(decide (fps.length≤10)&&Vi fps) with
     |false=>
      rw [hnk] at hnm
      (repeat' (first|refine Run.ct rfl ?_|((first|refine Run.reg mixed ?_|refine Run.AJ ?_|(refine Run.Aa Ct (σ2:=σ) (hle _) ?_)|refine AG.det (hnm _) ?_|(refine AP rfl (fun h=>?_) (fun h=>?_)<;>try (cases h;done)))<;>try simp -implicitDefEqProofs only [BG hlt1,he,N4,decide_eq_false h40,AB,go_sem])|(refine ⟨fun h=>?_,fun h=>?_⟩<;>first|(cases h;done)|try simp only [h])|fail))
      exact hno
     |true=>
     rw [hnk] at hnm
     (repeat' (first|refine Run.ct rfl ?_|((first|refine Run.reg mixed ?_|refine Run.AJ ?_|(refine AG.mk rfl hcl ?_;rintro v σ' ⟨b,z,⟨rfl,rfl⟩,hres⟩;cases b<;>rw [A2])|(refine Run.Aa Ct (σ2:=σ) (YL hle0 hj) ?_)|refine AG.det (hnm _) ?_|(refine AP rfl (fun h=>?_) (fun h=>?_)<;>try (cases h;done)))<;>try simp -implicitDefEqProofs only [BG hlt1,he,hw1,N4,decide_eq_false h40,AB,go_sem])|(refine ⟨fun h=>?_,fun h=>?_⟩<;>first|(cases h;done)|try simp only [h])|fail))
     · exact hno
     · obtain ⟨g1,q3,rfl,g2⟩:=hres rfl
       exact ih (i1+1,q3) ⟨by simp only;omega,by simp only;omega,hms ⟨by simp only;omega,cN hnk,g1,by simp only;omega⟩⟩ (by simp only;omega)
   · rw [A8 (by omega)] at hsm1
     (repeat' (first|refine Run.ct rfl ?_|((first|refine Run.reg mixed ?_|refine Run.AJ ?_|(refine Run.Aa Ct (σ2:=σ) (hle _) ?_)|(refine AP rfl (fun h=>?_) (fun h=>?_)<;>try (cases h;done)))<;>try simp -implicitDefEqProofs only [E0 hlt1,AB,go_sem])|(refine ⟨fun h=>?_,fun h=>?_⟩<;>first|(cases h;done)|try simp only [h])|fail))
     exact hyes ⟨⟨by simp only;omega,hsm⟩,by simp only;omega,hsm1⟩
end Go.Ab
namespace Go.Ab
open Go.Proofs
end Go.Ab
namespace Go.Ab
open Go.Proofs
noncomputable def eqB {α:Type} (a b:α):Bool:=@decide (a=b) (XN _)
theorem qX {α:Type} {a b:α} (h:a=b):eqB a b=true:=@decide_eq_true _ (XN _) h
theorem Dm {α:Type} {a b:α} (h:a≠b):eqB a b=false:=@decide_eq_false _ (XN _) h
theorem Q4 {α:Type} (a:α):eqB a a=true:=qX rfl
theorem SH {α:Type} {l m:List α} (h:l.length≠m.length):l≠m:=fun e=>h (by rw [e])
theorem WE {α:Type} {l m:List α} {i:Nat} {x y:α} (hx:l[i]?=some x) (hy:m[i]?=some y) (h:x≠y):l≠m:=fun e=>h (by rw [e,hy] at hx;exact (Gm hx).symm)
theorem Ie {α:Type} {l m:List α} {i:Nat} {x:α} (h:l.take i=m.take i) (hx:l[i]?=some x) (hy:m[i]?=some x):l.take (i+1)=m.take (i+1):=by rw [Ff hx,Ff hy,h]
theorem LQ {α:Type} {l m:List α} {i:Nat} (h:l.take i=m.take i) (hl:l.length=m.length) (hi:¬i < l.length):l=m:=by
 rwa [A8 (by omega),A8 (by omega)] at h
theorem zQ {a b:Nat} (h:a≠b):((a:Int)==(b:Int))=false:=C4 (by omega)
theorem SG {a b:Nat} (h:a≠b):((a:Int) != (b:Int))=true:=by rw [bne,zQ h];rfl
theorem jA {a b:Int} (h:a≠b):(a != b)=true:=by rw [bne,C4 h];rfl
theorem Vw {a b:List UInt8} (h:¬a=b):(a==b)=false:=by simpa using h
theorem AAF {a b:Str} (h:a≠b):(a==b)=false:=by simpa using h
theorem M4 (l m:List Str) (σ:AM):AR Tryz.prog 36 [.d (.sl (l.map Cn)),.d (.sl (m.map Cn))] σ (fun v σ'=>v= .d (.bool (eqB l m))∧σ'=σ):=by
 refine YA (by simp) ?_
 rw [BF]
 refine Run.slot 0 (fun hb0=>?_)
 have hb0:l.length≤9223372036854775807:=by simpa [II,AV.FJ] using hb0
 by_cases hl:l.length=m.length
 · (repeat' (first|refine Run.ct rfl ?_|((first|refine Run.reg mixed ?_|refine Run.AJ ?_|(refine AP rfl (fun h=>?_) (fun h=>?_)<;>try (cases h;done)))<;>try simp -implicitDefEqProofs only [AB,hl,beq_self_eq_true,bne_self_eq_false,BO,go_sem])|(refine ⟨fun h=>?_,fun h=>?_⟩<;>first|(cases h;done)|try simp only [h])|fail))
   refine Run.B1 ?_
   refine Run.B7 ((fun (a0:AV) (a1:AV)=>fun (i:Nat)=>put 0 a0 (put 1 a1 (put 5 (.d (.int .i64 i)) U))) _ _) (fun _=>E) (fun _=>σ) (fun i=>i≤l.length∧l.take i=m.take i) (fun i=>l.length - i) ?_ 0 ⟨by simp,by simp⟩
   rintro i ⟨hi,ht⟩ ih
   by_cases hlt:i < l.length
   · obtain ⟨x,hx⟩:=Ba hlt
     obtain ⟨y,hy⟩:=Ba (show i < m.length by omega)
     have he:=BX (enc:=Cn) hx
     have he':=BX (enc:=Cn) hy
     simp only [Cn] at he he'
     have hw1:IntKind.i64.wrap ((i:Int)+1)=((i+1:Nat):Int):=by rw [Aw (by omega) (by omega)];omega
     by_cases hxy:x=y
     · subst hxy
       (repeat' (first|refine Run.ct rfl ?_|((first|refine Run.reg mixed ?_|refine Run.AJ ?_|(refine AP rfl (fun h=>?_) (fun h=>?_)<;>try (cases h;done)))<;>try simp -implicitDefEqProofs only [BG hlt,he,he',hw1,beq_self_eq_true,bne_self_eq_false,BO,AB,go_sem])|(refine ⟨fun h=>?_,fun h=>?_⟩<;>first|(cases h;done)|try simp only [h])|fail))
       exact ih (i+1) ⟨by omega,Ie ht hx hy⟩ (by omega)
     · rw [Dm (WE hx hy hxy)]
       (repeat' (first|refine Run.ct rfl ?_|((first|refine Run.reg mixed ?_|refine Run.AJ ?_|refine Run.Aa JF (AM.le_refl _) ?_|(refine AP rfl (fun h=>?_) (fun h=>?_)<;>try (cases h;done)))<;>try simp -implicitDefEqProofs only [BG hlt,he,he',AAF hxy,BO,AB,go_sem])|(refine ⟨fun h=>?_,fun h=>?_⟩<;>first|(cases h;done)|try simp only [h])|fail))
   · rw [qX (LQ ht hl hlt)]
     (repeat' (first|refine Run.ct rfl ?_|((first|refine Run.reg mixed ?_|refine Run.AJ ?_|refine Run.Aa JF (AM.le_refl _) ?_|(refine AP rfl (fun h=>?_) (fun h=>?_)<;>try (cases h;done)))<;>try simp -implicitDefEqProofs only [E0 hlt,AB,go_sem])|(refine ⟨fun h=>?_,fun h=>?_⟩<;>first|(cases h;done)|try simp only [h])|fail))
 · rw [Dm (SH hl)]
   (repeat' (first|refine Run.ct rfl ?_|((first|refine Run.reg mixed ?_|refine Run.AJ ?_|refine Run.Aa JF (AM.le_refl _) ?_|(refine AP rfl (fun h=>?_) (fun h=>?_)<;>try (cases h;done)))<;>try simp -implicitDefEqProofs only [AB,SG hl,go_sem])|(refine ⟨fun h=>?_,fun h=>?_⟩<;>first|(cases h;done)|try simp only [h])|fail))
theorem WB:∀(N:Nat) (t u:TE),t.size≤N→∀σ,AR Tryz.prog 37 [teA t,teA u] σ (fun v σ'=>v= .d (.bool (eqB t u))∧σ'=σ)
 |0,t,u,h,_=>by have:=TE.size_pos t;omega
 |N+1,.mk k n l,.mk k' n' m,h,σ=>by
  rw [TE.size] at h
  have ihN:=fun x hx u=>WB N x u (by have:=TE.NF (l:=l) (t:=x) hx;omega) σ
  refine Z5 (by simp) ?_
  rw [BF]
  simp only [teA,TE.A1,AF,AI]
  by_cases hk:k=k'
  · subst hk
    by_cases hn:n=n'
    · subst hn
      by_cases hl:l.length=m.length
      · (repeat' (first|refine Run.ct rfl ?_|((first|refine Run.reg mixed ?_|refine Run.AJ ?_|(refine AP rfl (fun h=>?_) (fun h=>?_)<;>try (cases h;done)))<;>try simp -implicitDefEqProofs only [AB,hl,beq_self_eq_true,bne_self_eq_false,BO,go_sem])|(refine ⟨fun h=>?_,fun h=>?_⟩<;>first|(cases h;done)|try simp only [h])|fail))
        refine Run.cell 2 2 rfl rfl (fun hb0=>?_)
        have hb0:l.length≤9223372036854775807:=by simpa [AV.FJ] using hb0
        refine Run.B1 ?_
        refine Run.B7 ((fun (a2:AV) (a3:AV)=>fun (i:Nat)=>put 2 a2 (put 3 a3 (put 5 (.d (.int .i64 i)) U))) _ _) (fun _=>BW 2 [.d (.int .i64 k),.d (.str n),.d (.sl (l.map TE.enc))] (BW 3 [.d (.int .i64 k),.d (.str n),.d (.sl (m.map TE.enc))] E)) (fun _=>σ) (fun i=>i≤l.length∧l.take i=m.take i) (fun i=>l.length - i) ?_ 0 ⟨by simp,by simp⟩
        rintro i ⟨hi,ht⟩ ih
        by_cases hlt:i < l.length
        · obtain ⟨x,hx⟩:=Ba hlt
          obtain ⟨y,hy⟩:=Ba (show i < m.length by omega)
          have he:=BX (enc:=TE.enc) hx
          have he':=BX (enc:=TE.enc) hy
          have hw1:IntKind.i64.wrap ((i:Int)+1)=((i+1:Nat):Int):=by rw [Aw (by omega) (by omega)];omega
          have hc:=ihN x (Ad hx) y
          by_cases hxy:x=y
          · subst hxy
            rw [Q4] at hc
            obtain ⟨k0,n0,l0⟩:=x
            simp only [teA,TE.A1,AF,AI] at he he' hc
            (repeat' (first|refine Run.ct rfl ?_|((first|refine Run.reg mixed ?_|refine Run.AJ ?_|refine AG.det (hc) ?_|(refine AP rfl (fun h=>?_) (fun h=>?_)<;>try (cases h;done)))<;>try simp -implicitDefEqProofs only [BG hlt,he,he',hw1,AB,go_sem])|(refine ⟨fun h=>?_,fun h=>?_⟩<;>first|(cases h;done)|try simp only [h])|fail))
            exact ih (i+1) ⟨by omega,Ie ht hx hy⟩ (by omega)
          · rw [Dm (show TE.mk k n l≠TE.mk k n m from fun e=>WE hx hy hxy (by injection e))]
            rw [Dm hxy] at hc
            obtain ⟨k0,n0,l0⟩:=x
            obtain ⟨k1,n1,l1⟩:=y
            simp only [teA,TE.A1,AF,AI] at he he' hc
            (repeat' (first|refine Run.ct rfl ?_|((first|refine Run.reg mixed ?_|refine Run.AJ ?_|refine Run.Aa G3 (AM.le_refl _) ?_|refine AG.det (hc) ?_|(refine AP rfl (fun h=>?_) (fun h=>?_)<;>try (cases h;done)))<;>try simp -implicitDefEqProofs only [BG hlt,he,he',AB,go_sem])|(refine ⟨fun h=>?_,fun h=>?_⟩<;>first|(cases h;done)|try simp only [h])|fail))
        · rw [qX (show TE.mk k n l=TE.mk k n m by rw [LQ ht hl hlt])]
          (repeat' (first|refine Run.ct rfl ?_|((first|refine Run.reg mixed ?_|refine Run.AJ ?_|refine Run.Aa G3 (AM.le_refl _) ?_|(refine AP rfl (fun h=>?_) (fun h=>?_)<;>try (cases h;done)))<;>try simp -implicitDefEqProofs only [E0 hlt,AB,go_sem])|(refine ⟨fun h=>?_,fun h=>?_⟩<;>first|(cases h;done)|try simp only [h])|fail))
      · rw [Dm (show TE.mk k n l≠TE.mk k n m from fun e=>SH hl (by injection e))]
        (repeat' (first|refine Run.ct rfl ?_|((first|refine Run.reg mixed ?_|refine Run.AJ ?_|refine Run.Aa G3 (AM.le_refl _) ?_|(refine AP rfl (fun h=>?_) (fun h=>?_)<;>try (cases h;done)))<;>try simp -implicitDefEqProofs only [AB,SG hl,beq_self_eq_true,bne_self_eq_false,BO,go_sem])|(refine ⟨fun h=>?_,fun h=>?_⟩<;>first|(cases h;done)|try simp only [h])|fail))
    · rw [Dm (show TE.mk k n l≠TE.mk k n' m from fun e=>hn (by injection e))]
      (repeat' (first|refine Run.ct rfl ?_|((first|refine Run.reg mixed ?_|refine Run.AJ ?_|refine Run.Aa G3 (AM.le_refl _) ?_|(refine AP rfl (fun h=>?_) (fun h=>?_)<;>try (cases h;done)))<;>try simp -implicitDefEqProofs only [Vw hn,BO,beq_self_eq_true,bne_self_eq_false,BO,go_sem])|(refine ⟨fun h=>?_,fun h=>?_⟩<;>first|(cases h;done)|try simp only [h])|fail))
  · rw [Dm (show TE.mk k n l≠TE.mk k' n' m from fun e=>hk (by injection e))]
    (repeat' (first|refine Run.ct rfl ?_|((first|refine Run.reg mixed ?_|refine Run.AJ ?_|refine Run.Aa G3 (AM.le_refl _) ?_|(refine AP rfl (fun h=>?_) (fun h=>?_)<;>try (cases h;done)))<;>try simp -implicitDefEqProofs only [jA hk,go_sem])|(refine ⟨fun h=>?_,fun h=>?_⟩<;>first|(cases h;done)|try simp only [h])|fail))
end Go.Ab
namespace Go.Ab
open Go.Proofs
set_option maxHeartbeats 8000000 in
theorem RY:∀(N:Nat) (t u:Ex),t.size≤N→∀σ,AR Tryz.prog 38 [exA t,exA u] σ (fun v σ'=>v= .d (.bool (eqB t u))∧σ'=σ)
 |0,t,u,h,_=>by have:=Ex.size_pos t;omega
 |N+1,.mk o n u ns ks al,.mk o' n' u' ns' ks' al',h,σ=>by
  rw [Ex.size] at h
  have ihN:=fun x hx u=>RY N x u (by have:=Ex.NF (l:=ks) (t:=x) hx;omega) σ
  have ihA:∀c vs b,Al.mk c vs b∈al→∀u,AR Tryz.prog 38 [exA b,exA u] σ (fun v σ'=>v= .d (.bool (eqB b u))∧σ'=σ):=fun c vs b hx u=>RY N b u (by have:=Al.NF (l:=al) hx;rw [Al.size] at this;omega) σ
  have hsn:=M4 ns ns' σ
  refine Z4 (by simp) ?_
  rw [BF]
  simp only [exA,Ex.A1,AF,AI]
  by_cases ho:o=o'
  rotate_left
  · rw [Dm (fun e=>ho (by injection e))]
    (repeat' (first|refine Run.ct rfl ?_|((first|refine Run.reg mixed ?_|refine Run.AJ ?_|refine Run.Aa CZ (AM.le_refl _) ?_|(refine AP rfl (fun h=>?_) (fun h=>?_)<;>try (cases h;done)))<;>try simp -implicitDefEqProofs only [jA ho,go_sem])|(refine ⟨fun h=>?_,fun h=>?_⟩<;>first|(cases h;done)|try simp only [h])|fail))
  subst ho
  by_cases hn:n=n'
  rotate_left
  · rw [Dm (fun e=>hn (by injection e))]
    (repeat' (first|refine Run.ct rfl ?_|((first|refine Run.reg mixed ?_|refine Run.AJ ?_|refine Run.Aa CZ (AM.le_refl _) ?_|(refine AP rfl (fun h=>?_) (fun h=>?_)<;>try (cases h;done)))<;>try simp -implicitDefEqProofs only [Vw hn,BO,bne_self_eq_false,go_sem])|(refine ⟨fun h=>?_,fun h=>?_⟩<;>first|(cases h;done)|try simp only [h])|fail))
  subst hn
  by_cases hu:u=u'
  rotate_left
  · rw [Dm (fun e=>hu (by injection e))]
    (repeat' (first|refine Run.ct rfl ?_|((first|refine Run.reg mixed ?_|refine Run.AJ ?_|refine Run.Aa CZ (AM.le_refl _) ?_|(refine AP rfl (fun h=>?_) (fun h=>?_)<;>try (cases h;done)))<;>try simp -implicitDefEqProofs only [jA hu,beq_self_eq_true,BO,bne_self_eq_false,go_sem])|(refine ⟨fun h=>?_,fun h=>?_⟩<;>first|(cases h;done)|try simp only [h])|fail))
  subst hu
  by_cases hs:ns=ns'
  rotate_left
  · rw [Dm hs] at hsn
    rw [Dm (fun e=>hs (by injection e))]
    (repeat' (first|refine Run.ct rfl ?_|((first|refine Run.reg mixed ?_|refine Run.AJ ?_|refine Run.Aa CZ (AM.le_refl _) ?_|refine AG.det (hsn) ?_|(refine AP rfl (fun h=>?_) (fun h=>?_)<;>try (cases h;done)))<;>try simp -implicitDefEqProofs only [beq_self_eq_true,BO,bne_self_eq_false,go_sem])|(refine ⟨fun h=>?_,fun h=>?_⟩<;>first|(cases h;done)|try simp only [h])|fail))
  subst hs
  rw [Q4] at hsn
  by_cases hk:ks.length=ks'.length
  rotate_left
  · rw [Dm (fun e=>SH hk (by injection e))]
    (repeat' (first|refine Run.ct rfl ?_|((first|refine Run.reg mixed ?_|refine Run.AJ ?_|refine Run.Aa CZ (AM.le_refl _) ?_|refine AG.det (hsn) ?_|(refine AP rfl (fun h=>?_) (fun h=>?_)<;>try (cases h;done)))<;>try simp -implicitDefEqProofs only [beq_self_eq_true,BO,bne_self_eq_false,SG hk,AB,go_sem])|(refine ⟨fun h=>?_,fun h=>?_⟩<;>first|(cases h;done)|try simp only [h])|fail))
  by_cases ha:al.length=al'.length
  rotate_left
  · rw [Dm (fun e=>SH ha (by injection e))]
    (repeat' (first|refine Run.ct rfl ?_|((first|refine Run.reg mixed ?_|refine Run.AJ ?_|refine Run.Aa CZ (AM.le_refl _) ?_|refine AG.det (hsn) ?_|(refine AP rfl (fun h=>?_) (fun h=>?_)<;>try (cases h;done)))<;>try simp -implicitDefEqProofs only [beq_self_eq_true,BO,bne_self_eq_false,SG ha,AB,hk,go_sem])|(refine ⟨fun h=>?_,fun h=>?_⟩<;>first|(cases h;done)|try simp only [h])|fail))
  (repeat' (first|refine Run.ct rfl ?_|((first|refine Run.reg mixed ?_|refine Run.AJ ?_|refine AG.det (hsn) ?_|(refine AP rfl (fun h=>?_) (fun h=>?_)<;>try (cases h;done)))<;>try simp -implicitDefEqProofs only [beq_self_eq_true,BO,bne_self_eq_false,AB,hk,ha,go_sem])|(refine ⟨fun h=>?_,fun h=>?_⟩<;>first|(cases h;done)|try simp only [h])|fail))
  refine Run.cell 2 4 rfl rfl (fun hb0=>?_)
  refine Run.cell 2 5 rfl rfl (fun hb1=>?_)
  have hb0:ks.length≤9223372036854775807:=by simpa [AV.FJ] using hb0
  have hb1:al.length≤9223372036854775807:=by simpa [AV.FJ] using hb1
  refine Run.B1 ?_
  refine Run.B7 ((fun (a2:AV) (a3:AV)=>fun (i:Nat)=>put 2 a2 (put 3 a3 (put 5 (.d (.int .i64 i)) U))) _ _) (fun _=>BW 2 [.d (.int .i64 o),.d (.str n),.d (.int .i64 u),.d (.sl (ns.map Cn)),.d (.sl (ks.map Ex.enc)),.d (.sl (al.map Al.enc))] (BW 3 [.d (.int .i64 o),.d (.str n),.d (.int .i64 u),.d (.sl (ns.map Cn)),.d (.sl (ks'.map Ex.enc)),.d (.sl (al'.map Al.enc))] E)) (fun _=>σ) (fun i=>i≤ks.length∧ks.take i=ks'.take i) (fun i=>ks.length - i) ?_ 0 ⟨by simp,by simp⟩
  rintro i ⟨hi,ht⟩ ih
  by_cases hlt:i < ks.length
  · obtain ⟨x,hx⟩:=Ba hlt
    obtain ⟨y,hy⟩:=Ba (show i < ks'.length by omega)
    have he:=BX (enc:=Ex.enc) hx
    have he':=BX (enc:=Ex.enc) hy
    have hw1:IntKind.i64.wrap ((i:Int)+1)=((i+1:Nat):Int):=by rw [Aw (by omega) (by omega)];omega
    have hc:=ihN x (Ad hx) y
    by_cases hxy:x=y
    · subst hxy
      rw [Q4] at hc
      obtain ⟨o0,n0,u0,ns0,ks0,al0⟩:=x
      simp only [exA,Ex.A1,AF,AI] at he he' hc
      (repeat' (first|refine Run.ct rfl ?_|((first|refine Run.reg mixed ?_|refine Run.AJ ?_|refine AG.det (hc) ?_|(refine AP rfl (fun h=>?_) (fun h=>?_)<;>try (cases h;done)))<;>try simp -implicitDefEqProofs only [BG hlt,he,he',hw1,AB,go_sem])|(refine ⟨fun h=>?_,fun h=>?_⟩<;>first|(cases h;done)|try simp only [h])|fail))
      exact ih (i+1) ⟨by omega,Ie ht hx hy⟩ (by omega)
    · rw [Dm (fun e=>WE hx hy hxy (by injection e))]
      rw [Dm hxy] at hc
      obtain ⟨o0,n0,u0,ns0,ks0,al0⟩:=x
      obtain ⟨o1,n1,u1,ns1,ks1,al1⟩:=y
      simp only [exA,Ex.A1,AF,AI] at he he' hc
      (repeat' (first|refine Run.ct rfl ?_|((first|refine Run.reg mixed ?_|refine Run.AJ ?_|refine Run.Aa CZ (AM.le_refl _) ?_|refine AG.det (hc) ?_|(refine AP rfl (fun h=>?_) (fun h=>?_)<;>try (cases h;done)))<;>try simp -implicitDefEqProofs only [BG hlt,he,he',AB,go_sem])|(refine ⟨fun h=>?_,fun h=>?_⟩<;>first|(cases h;done)|try simp only [h])|fail))
  have hke:=LQ ht hk hlt
  subst hke
  (repeat' (first|refine Run.ct rfl ?_|((first|refine Run.reg mixed ?_|refine Run.AJ ?_|(refine AP rfl (fun h=>?_) (fun h=>?_)<;>try (cases h;done)))<;>try simp -implicitDefEqProofs only [E0 hlt,AB,go_sem])|(refine ⟨fun h=>?_,fun h=>?_⟩<;>first|(cases h;done)|try simp only [h])|fail))
  refine Run.B1 ?_
  refine Run.B7 ((fun (a2:AV) (a3:AV)=>fun (i:Nat)=>put 2 a2 (put 3 a3 (put 6 (.d (.int .i64 i)) U))) _ _) (fun _=>BW 2 [.d (.int .i64 o),.d (.str n),.d (.int .i64 u),.d (.sl (ns.map Cn)),.d (.sl (ks.map Ex.enc)),.d (.sl (al.map Al.enc))] (BW 3 [.d (.int .i64 o),.d (.str n),.d (.int .i64 u),.d (.sl (ns.map Cn)),.d (.sl (ks.map Ex.enc)),.d (.sl (al'.map Al.enc))] E)) (fun _=>σ) (fun i=>i≤al.length∧al.take i=al'.take i) (fun i=>al.length - i) ?_ 0 ⟨by simp,by simp⟩
  rintro q ⟨hq,htq⟩ ihq
  by_cases hltq:q < al.length
  · obtain ⟨x,hx⟩:=Ba hltq
    obtain ⟨y,hy⟩:=Ba (show q < al'.length by omega)
    have he:=BX (enc:=Al.enc) hx
    have he':=BX (enc:=Al.enc) hy
    have hw1:IntKind.i64.wrap ((q:Int)+1)=((q+1:Nat):Int):=by rw [Aw (by omega) (by omega)];omega
    obtain ⟨c,vs,b⟩:=x
    obtain ⟨c',vs',b'⟩:=y
    have hc:=ihA c vs b (Ad hx) b'
    have hv:=M4 vs vs' σ
    have hne:¬Al.mk c vs b= .mk c' vs' b'→Ex.mk o n u ns ks al≠.mk o n u ns ks al':=fun h e=>WE hx hy h (by injection e)
    by_cases hcc:c=c'
    rotate_left
    · rw [Dm (hne fun e=>hcc (by injection e))]
      obtain ⟨o0,n0,u0,ns0,ks0,al0⟩:=b
      obtain ⟨o1,n1,u1,ns1,ks1,al1⟩:=b'
      simp only [Al.A1,Ex.A1] at he he'
      (repeat' (first|refine Run.ct rfl ?_|((first|refine Run.reg mixed ?_|refine Run.AJ ?_|refine Run.Aa CZ (AM.le_refl _) ?_|(refine AP rfl (fun h=>?_) (fun h=>?_)<;>try (cases h;done)))<;>try simp -implicitDefEqProofs only [BG hltq,he,he',AB,BO,Vw hcc,go_sem])|(refine ⟨fun h=>?_,fun h=>?_⟩<;>first|(cases h;done)|try simp only [h])|fail))
    subst hcc
    by_cases hvv:vs=vs'
    rotate_left
    · rw [Dm (hne fun e=>hvv (by injection e))]
      rw [Dm hvv] at hv
      obtain ⟨o0,n0,u0,ns0,ks0,al0⟩:=b
      obtain ⟨o1,n1,u1,ns1,ks1,al1⟩:=b'
      simp only [Al.A1,Ex.A1] at he he'
      (repeat' (first|refine Run.ct rfl ?_|((first|refine Run.reg mixed ?_|refine Run.AJ ?_|refine Run.Aa CZ (AM.le_refl _) ?_|refine AG.det (hv) ?_|(refine AP rfl (fun h=>?_) (fun h=>?_)<;>try (cases h;done)))<;>try simp -implicitDefEqProofs only [BG hltq,he,he',AB,BO,beq_self_eq_true,go_sem])|(refine ⟨fun h=>?_,fun h=>?_⟩<;>first|(cases h;done)|try simp only [h])|fail))
    subst hvv
    rw [Q4] at hv
    by_cases hxy:b=b'
    · subst hxy
      rw [Q4] at hc
      obtain ⟨o0,n0,u0,ns0,ks0,al0⟩:=b
      simp only [exA,Al.A1,Ex.A1,AF,AI] at he he' hc
      (repeat' (first|refine Run.ct rfl ?_|((first|refine Run.reg mixed ?_|refine Run.AJ ?_|refine AG.det (hv) ?_|refine AG.det (hc) ?_|(refine AP rfl (fun h=>?_) (fun h=>?_)<;>try (cases h;done)))<;>try simp -implicitDefEqProofs only [BG hltq,he,he',hw1,AB,BO,beq_self_eq_true,go_sem])|(refine ⟨fun h=>?_,fun h=>?_⟩<;>first|(cases h;done)|try simp only [h])|fail))
      exact ihq (q+1) ⟨by omega,Ie htq hx hy⟩ (by omega)
    · rw [Dm (hne fun e=>hxy (by injection e))]
      rw [Dm hxy] at hc
      obtain ⟨o0,n0,u0,ns0,ks0,al0⟩:=b
      obtain ⟨o1,n1,u1,ns1,ks1,al1⟩:=b'
      simp only [exA,Al.A1,Ex.A1,AF,AI] at he he' hc
      (repeat' (first|refine Run.ct rfl ?_|((first|refine Run.reg mixed ?_|refine Run.AJ ?_|refine Run.Aa CZ (AM.le_refl _) ?_|refine AG.det (hv) ?_|refine AG.det (hc) ?_|(refine AP rfl (fun h=>?_) (fun h=>?_)<;>try (cases h;done)))<;>try simp -implicitDefEqProofs only [BG hltq,he,he',AB,BO,beq_self_eq_true,go_sem])|(refine ⟨fun h=>?_,fun h=>?_⟩<;>first|(cases h;done)|try simp only [h])|fail))
  · have hae:=LQ htq ha hltq
    subst hae
    rw [Q4]
    (repeat' (first|refine Run.ct rfl ?_|((first|refine Run.reg mixed ?_|refine Run.AJ ?_|refine Run.Aa CZ (AM.le_refl _) ?_|(refine AP rfl (fun h=>?_) (fun h=>?_)<;>try (cases h;done)))<;>try simp -implicitDefEqProofs only [E0 hltq,AB,go_sem])|(refine ⟨fun h=>?_,fun h=>?_⟩<;>first|(cases h;done)|try simp only [h])|fail))
end Go.Ab
