/- The guards on programs: Prog. Texts split into tokens, as the reference does it. Conditions: none. -/
import Derived.Test.YtlckhmkeihbhmaaGreatXSv
set_option linter.unusedSimpArgs false
set_option linter.unusedVariables false
set_option maxRecDepth 4000
set_option maxHeartbeats 8000000
open List renaming map_cons→AG,map_nil→AQ,length_map→AA,drop→Cq,take_of_length_le→AK,getElem?_drop→BE,getElem?_eq_none→BI,getElem?_eq_some_iff→AR,length_drop→Br,drop_take→Ii,drop_drop→Dp,length_append→AS,mem_singleton→Bd,length_take→Ai,drop_length→NJ
open Nat renaming le_refl→A0,lt_or_ge→Bt,add_zero→Ds,add_sub_cancel_left→Kt
open Bool renaming false_eq_true→AY,or_eq_false_iff→N7,and_true→As,and_false→Bm,true_and→Au,false_and→B5,eq_iff_iff→Af
open Option renaming isSome_some→Bn,isSome_none→CC
namespace Go.Ab
open Go.Proofs
def CE.sm (c:CE):Prop:=c.name.length≤40∧c.args.length≤10∧∀t∈c.args,t.sm∧t.size≤200
def DE.sm (d:DE):Prop:=d.name.length≤40∧cU d.vars∧d.cons.length≤10∧∀c∈d.cons,c.sm
def FE.sm (f:FE):Prop:=f.name.length≤40∧cU f.params∧f.body.sm∧f.body.size≤200
def Pg.sm (p:Pg):Prop:=(p.data.length≤14∧∀d∈p.data,d.sm)∧p.NP.length≤26∧∀f∈p.NP,f.sm
theorem lR (n:Nat):decide ((14:Int) < (n:Int))=decide (14 < n):=decide_eq_decide.2 (by omega)
theorem nO (n:Nat):decide ((26:Int) < (n:Int))=decide (26 < n):=decide_eq_decide.2 (by omega)
theorem Wg (p:Pg) (σ:AF):AL Tryz.prog 8 [pgA p] σ (fun v σ'=>∃b,(v= .d (.bool b)∧σ'=σ)∧(b=true→p.sm)):=by
 refine X5 (by simp) ?_
 rw [Bj]
 obtain ⟨ds,fs⟩:=p
 simp only [pgA,Pg.enc,AG,AQ]
 generalize hQ:(fun (v:AV) (σ':AF)=>∃b,(v= .d (.bool b)∧σ'=σ)∧(b=true→Pg.sm ⟨ds,fs⟩))=Q
 have hno:Q (.d (.bool false)) σ:=by rw [← hQ];exact ⟨false,⟨rfl,rfl⟩,fun h=>by cases h⟩
 have hyes:Pg.sm ⟨ds,fs⟩→Q (.d (.bool true)) σ:=fun h=>by rw [← hQ];exact ⟨true,⟨rfl,rfl⟩,fun _=>h⟩
 clear hQ
 by_cases hd14:14 < ds.length
 · (repeat' (first|refine Run.ct rfl ?_|((first|refine Run.reg mixed ?_|refine Run.AE ?_|refine Run.Fp Cj (AF.le_refl _) ?_)<;>try simp -implicitDefEqProofs only [AA,lR,decide_eq_true hd14,go_sem])|fail))
   exact hno
 by_cases hf26:26 < fs.length
 · (repeat' (first|refine Run.ct rfl ?_|((first|refine Run.reg mixed ?_|refine Run.AE ?_|refine Run.Fp Cj (AF.le_refl _) ?_)<;>try simp -implicitDefEqProofs only [AA,lR,decide_eq_false hd14,nO,decide_eq_true hf26,go_sem])|fail))
   exact hno
 (repeat' (first|refine Run.ct rfl ?_|((first|refine Run.reg mixed ?_|refine Run.AE ?_)<;>try simp -implicitDefEqProofs only [AA,lR,decide_eq_false hd14,nO,decide_eq_false hf26,go_sem])|fail))
 rintro j ⟨hj,hjb⟩
 obtain ⟨hle0,hbj⟩:=eB (z:=[AV.d (.int .i64 0)]) (x:=(1,3)) ⟨hj,hjb⟩
 generalize hτ:(σ.AO j [AV.d (.int .i64 0)]).DF j (1,3)=τ0 at hle0 hbj ⊢
 have hle:∀q:Nat,σ.le (τ0.AO j [.d (.int .i64 q)]):=fun q=>DH hle0 hj
 have hbk:∀q:Nat,(τ0.AO j [.d (.int .i64 q)]).blk j=some [.d (.int .i64 q)]:=fun q=>by rw [AM,if_pos rfl]
 clear hτ
 simp -implicitDefEqProofs only [hbj,Cq,go_sem]
 (repeat' (first|refine Run.ct rfl ?_|((first|refine Run.reg mixed ?_|refine Run.AE ?_)<;>try simp -implicitDefEqProofs only [AA,hbj,Cq,go_sem])|fail))
 refine Run.BD ?_
 refine Run.BK ((fun (a1:AV) (a3:AV) (a23:AV) (a24:AV)=>fun (y:Nat×Nat)=>put 1 a1 (put 3 a3 (put 23 a23 (put 24 a24 (put 25 (.d (.int .i64 y.1)) U))))) _ _ _ _) (fun _=>Az 1 [.d (.sl (ds.map DE.enc)),.d (.sl (fs.map FE.enc))] E) (fun y=>τ0.AO j [.d (.int .i64 y.2)])
  (fun y=>y.1≤ds.length∧y.2≤200∧∀d∈ds.take y.1,d.sm) (fun y=>ds.length - y.1) ?_ (0,200) ⟨by simp,by simp,by simp⟩
 rintro ⟨i,q⟩ ⟨hi,hq,hsm⟩ ih
 simp only at hi hq hsm
 by_cases hlt:i < ds.length
 · obtain ⟨d,hd⟩:=BC hlt
   have he:=BA (enc:=DE.enc) hd
   have hw1:=A5 (show i+1≤9000000000000000000 by omega)
   have hms:=fun hp=>Ee (p:=DE.sm) hsm hd hp
   obtain ⟨dn,dvs',dcs⟩:=d
   simp only [DE.enc] at he
   have hnm:=fun σ=>Ig dvs' σ
   by_cases h40:40 < dn.length
   · (repeat' (first|refine Run.ct rfl ?_|((first|refine Run.reg mixed ?_|refine Run.AE ?_|(refine Run.A1 Cj (σ2:=σ) (hle _) ?_))<;>try simp -implicitDefEqProofs only [Ac hlt,he,Kj,decide_eq_true h40,AA,go_sem])|fail))
     exact hno
   cases hnk:(decide (dvs'.length≤10)&&Rm dvs') with
   |false=>
    rw [hnk] at hnm
    (repeat' (first|refine Run.ct rfl ?_|((first|refine Run.reg mixed ?_|refine Run.AE ?_|(refine Run.A1 Cj (σ2:=σ) (hle _) ?_)|refine AI.det (hnm _) ?_)<;>try simp -implicitDefEqProofs only [Ac hlt,he,Kj,decide_eq_false h40,AA,go_sem])|fail))
    exact hno
   |true=>
   rw [hnk] at hnm
   by_cases hc10:10 < dcs.length
   · (repeat' (first|refine Run.ct rfl ?_|((first|refine Run.reg mixed ?_|refine Run.AE ?_|(refine Run.A1 Cj (σ2:=σ) (hle _) ?_)|refine AI.det (hnm _) ?_)<;>try simp -implicitDefEqProofs only [Ac hlt,he,Kj,decide_eq_false h40,Yq,decide_eq_true hc10,AA,go_sem])|fail))
     exact hno
   (repeat' (first|refine Run.ct rfl ?_|((first|refine Run.reg mixed ?_|refine Run.AE ?_|refine AI.det (hnm _) ?_)<;>try simp -implicitDefEqProofs only [Ac hlt,he,Kj,decide_eq_false h40,Yq,decide_eq_false hc10,AA,go_sem])|fail))
   refine Run.BD ?_
   refine Run.BK ((fun (a1:AV) (a3:AV) (a23:AV) (a24:AV) (a25:AV) (a46:AV) (a47:AV)=>fun (y:Nat×Nat)=>put 1 a1 (put 3 a3 (put 23 a23 (put 24 a24 (put 25 a25 (put 46 a46 (put 47 a47 (put 48 (.d (.int .i64 y.1)) U)))))))) _ _ _ _ _ _ _) (fun _=>Az 1 [.d (.sl (ds.map DE.enc)),.d (.sl (fs.map FE.enc))] E) (fun y=>τ0.AO j [.d (.int .i64 y.2)])
    (fun y=>y.1≤dcs.length∧y.2≤200∧∀d∈dcs.take y.1,d.sm) (fun y=>dcs.length - y.1) ?_ (0,q) ⟨by simp,hq,by simp⟩
   rintro ⟨i1,q1⟩ ⟨hi1,hq1,hsm1⟩ ih1
   simp only at hi1 hq1 hsm1
   by_cases hlt1:i1 < dcs.length
   · obtain ⟨c,hc⟩:=BC hlt1
     have he1:=BA (enc:=CE.enc) hc
     have hw2:=A5 (show i1+1≤9000000000000000000 by omega)
     have hms1:=fun hp=>Ee (p:=CE.sm) hsm1 hc hp
     obtain ⟨cn,ar⟩:=c
     simp only [CE.enc] at he1
     by_cases hcn40:40 < cn.length
     · (repeat' (first|refine Run.ct rfl ?_|((first|refine Run.reg mixed ?_|refine Run.AE ?_|(refine Run.A1 Cj (σ2:=σ) (hle _) ?_))<;>try simp -implicitDefEqProofs only [Ac hlt1,he1,Kj,decide_eq_true hcn40,AA,go_sem])|fail))
       exact hno
     by_cases ha10:10 < ar.length
     · (repeat' (first|refine Run.ct rfl ?_|((first|refine Run.reg mixed ?_|refine Run.AE ?_|(refine Run.A1 Cj (σ2:=σ) (hle _) ?_))<;>try simp -implicitDefEqProofs only [Ac hlt1,he1,Kj,decide_eq_false hcn40,Yq,decide_eq_true ha10,AA,go_sem])|fail))
       exact hno
     (repeat' (first|refine Run.ct rfl ?_|((first|refine Run.reg mixed ?_|refine Run.AE ?_)<;>try simp -implicitDefEqProofs only [Ac hlt1,he1,Kj,decide_eq_false hcn40,Yq,decide_eq_false ha10,AA,go_sem])|fail))
     refine Run.BD ?_
     refine Run.BK ((fun (a1:AV) (a3:AV) (a23:AV) (a24:AV) (a25:AV) (a46:AV) (a47:AV) (a48:AV) (a63:AV) (a64:AV)=>fun (y:Nat×Nat)=>put 1 a1 (put 3 a3 (put 23 a23 (put 24 a24 (put 25 a25 (put 46 a46 (put 47 a47 (put 48 a48 (put 63 a63 (put 64 a64 (put 65 (.d (.int .i64 y.1)) U))))))))))) _ _ _ _ _ _ _ _ _ _) (fun _=>Az 1 [.d (.sl (ds.map DE.enc)),.d (.sl (fs.map FE.enc))] E) (fun y=>τ0.AO j [.d (.int .i64 y.2)])
      (fun y=>y.1≤ar.length∧y.2≤200∧∀t∈ar.take y.1,t.sm∧t.size≤200) (fun y=>ar.length - y.1) ?_ (0,q1) ⟨by simp,hq1,by simp⟩
     rintro ⟨i2,q2⟩ ⟨hi2,hq2,hsm2⟩ ih2
     simp only at hi2 hq2 hsm2
     by_cases hlt2:i2 < ar.length
     · obtain ⟨x,hx⟩:=BC hlt2
       have he2:=BA (enc:=TE.enc) hx
       have hw3:=A5 (show i2+1≤9000000000000000000 by omega)
       have hms2:=fun hp=>Ee (p:=fun t=>TE.sm t∧t.size≤200) hsm2 hx hp
       have hcl:=Sn j x.size x q2 (τ0.AO j [.d (.int .i64 q2)]) (A0 _) (by omega) (hbk q2)
       obtain ⟨xk,xn,xl⟩:=x
       simp only [teA,TE.A4,AG,AQ] at he2 hcl
       (repeat' (first|refine Run.ct rfl ?_|((first|refine Run.reg mixed ?_|refine Run.AE ?_|(refine AI.mk rfl hcl ?_;rintro v σ' ⟨b,z,⟨rfl,rfl⟩,hres⟩;cases b<;>rw [FU])|(refine Run.A1 Cj (σ2:=σ) (DH hle0 hj) ?_))<;>try simp -implicitDefEqProofs only [Ac hlt2,he2,hw3,AA,go_sem])|fail))
       · exact hno
       · obtain ⟨g1,q3,rfl,g2⟩:=hres rfl
         exact ih2 (i2+1,q3) ⟨by simp only;omega,by simp only;omega,hms2 ⟨g1,by omega⟩⟩ (by simp only;omega)
     · rw [AK (by omega)] at hsm2
       (repeat' (first|refine Run.ct rfl ?_|((first|refine Run.reg mixed ?_|refine Run.AE ?_)<;>try simp -implicitDefEqProofs only [Bi hlt2,hw2,AA,go_sem])|fail))
       exact ih1 (i1+1,q2) ⟨by simp only;omega,hq2,hms1 ⟨by simp only;omega,by simp only;omega,hsm2⟩⟩ (by simp only;omega)
   · rw [AK (by omega)] at hsm1
     (repeat' (first|refine Run.ct rfl ?_|((first|refine Run.reg mixed ?_|refine Run.AE ?_)<;>try simp -implicitDefEqProofs only [Bi hlt1,hw1,AA,go_sem])|fail))
     exact ih (i+1,q1) ⟨by simp only;omega,hq1,hms ⟨by simp only;omega,Wl hnk,by simp only;omega,hsm1⟩⟩ (by simp only;omega)
 · rw [AK (by omega)] at hsm
   clear ih
   (repeat' (first|refine Run.ct rfl ?_|((first|refine Run.reg mixed ?_|refine Run.AE ?_)<;>try simp -implicitDefEqProofs only [Bi hlt,AA,go_sem])|fail))
   refine Run.BD ?_
   refine Run.BK ((fun (a3:AV) (a76:AV) (a77:AV)=>fun (y:Nat×Nat)=>put 3 a3 (put 76 a76 (put 77 a77 (put 78 (.d (.int .i64 y.1)) U)))) _ _ _) (fun _=>E) (fun y=>τ0.AO j [.d (.int .i64 y.2)])
    (fun y=>y.1≤fs.length∧y.2≤200∧∀d∈fs.take y.1,d.sm) (fun y=>fs.length - y.1) ?_ (0,q) ⟨by simp,hq,by simp⟩
   rintro ⟨i1,q1⟩ ⟨hi1,hq1,hsm1⟩ ih
   simp only at hi1 hq1 hsm1
   by_cases hlt1:i1 < fs.length
   · obtain ⟨f,hf⟩:=BC hlt1
     have he:=BA (enc:=FE.enc) hf
     have hw1:=A5 (show i1+1≤9000000000000000000 by omega)
     have hms:=fun hp=>Ee (p:=FE.sm) hsm1 hf hp
     obtain ⟨fn,fps,fb⟩:=f
     have hnm:=fun σ=>Ig fps σ
     have hcl:=Wh j fb.size fb q1 (τ0.AO j [.d (.int .i64 q1)]) (A0 _) (by omega) (hbk q1)
     obtain ⟨xo,xn,xu,xns,xks,xal⟩:=fb
     simp only [FE.enc,exA,Ex.A4,AG,AQ] at he hcl
     by_cases h40:40 < fn.length
     · (repeat' (first|refine Run.ct rfl ?_|((first|refine Run.reg mixed ?_|refine Run.AE ?_|(refine Run.A1 Cj (σ2:=σ) (hle _) ?_))<;>try simp -implicitDefEqProofs only [Ac hlt1,he,Kj,decide_eq_true h40,AA,go_sem])|fail))
       exact hno
     cases hnk:(decide (fps.length≤10)&&Rm fps) with
     |false=>
      rw [hnk] at hnm
      (repeat' (first|refine Run.ct rfl ?_|((first|refine Run.reg mixed ?_|refine Run.AE ?_|(refine Run.A1 Cj (σ2:=σ) (hle _) ?_)|refine AI.det (hnm _) ?_)<;>try simp -implicitDefEqProofs only [Ac hlt1,he,Kj,decide_eq_false h40,AA,go_sem])|fail))
      exact hno
     |true=>
     rw [hnk] at hnm
     (repeat' (first|refine Run.ct rfl ?_|((first|refine Run.reg mixed ?_|refine Run.AE ?_|(refine AI.mk rfl hcl ?_;rintro v σ' ⟨b,z,⟨rfl,rfl⟩,hres⟩;cases b<;>rw [FU])|(refine Run.A1 Cj (σ2:=σ) (DH hle0 hj) ?_)|refine AI.det (hnm _) ?_)<;>try simp -implicitDefEqProofs only [Ac hlt1,he,hw1,Kj,decide_eq_false h40,AA,go_sem])|fail))
     · exact hno
     · obtain ⟨g1,q3,rfl,g2⟩:=hres rfl
       exact ih (i1+1,q3) ⟨by simp only;omega,by simp only;omega,hms ⟨by simp only;omega,Wl hnk,g1,by simp only;omega⟩⟩ (by simp only;omega)
   · rw [AK (by omega)] at hsm1
     (repeat' (first|refine Run.ct rfl ?_|((first|refine Run.reg mixed ?_|refine Run.AE ?_|(refine Run.A1 Cj (σ2:=σ) (hle _) ?_))<;>try simp -implicitDefEqProofs only [Bi hlt1,AA,go_sem])|fail))
     exact hyes ⟨⟨by simp only;omega,hsm⟩,by simp only;omega,hsm1⟩
end Go.Ab
namespace Go.Ab
open Go.Proofs
theorem XD (z:UInt8):ED HY z=(V1 z.toNat||TJ z.toNat||H7 z.toNat||((z.toNat:Int)==95)):=rfl
theorem UY (s:Str) (i:Nat) (x:UInt8) (hx:s[i]?=some x) (hw:ED HY x=true) (hl:s.length≤16384) (σ1:AF) (a5 a7:AV) (K:AV→AF→Prop) (k:List CI)
 (hk:Run FV K k (put 0 (.d (.str s)) (put 5 a5 (put 6 (.d (.int .i64 i)) (put 7 a7 (put 8 (.d (.int .i64 (((s.drop i).takeWhile (ED HY)).length:Nat))) U))))) E σ1):
 Run FV K (.again PR::.blk 5::k) (put 0 (.d (.str s)) (put 5 a5 (put 6 (.d (.int .i64 i)) (put 7 a7 (put 8 (.d (.int .i64 1)) U))))) E σ1:=by
 refine Run.BK ((fun (a0:AV) (a5:AV) (a6:AV) (a7:AV)=>fun (m:Nat)=>put 0 a0 (put 5 a5 (put 6 a6 (put 7 a7 (put 8 (.d (.int .i64 m)) U))))) _ _ _ _) (fun _=>E) (fun _=>σ1) (fun m=>1≤m∧i+m≤s.length∧∀q b,q < m→(s.drop i)[q]?=some b→ED HY b=true) (fun m=>s.length - m) ?_ 1 ⟨by omega,?_,?_⟩
 · rintro m ⟨h1,hm,hall⟩ ih
   have hw0:=wrap_add (show i+m≤9000000000000000000 by omega)
   have hw1:=A5 (show m+1≤9000000000000000000 by omega)
   have hend:(∀b,(s.drop i)[m]?=some b→ED HY b=false)→((s.drop i).takeWhile (ED HY)).length=m:=fun h=>by
    rw [EP hall (by simp;omega) h];simp;omega
   by_cases hlt:i+m < s.length
   · obtain ⟨z,hz⟩:=BC hlt
     have hz2:(s.drop i)[m]?=some z:=by rw [BE];exact hz
     have hstep:ED HY z=true→∀q b,q < m+1→(s.drop i)[q]?=some b→ED HY b=true:=fun hc q b hq hb=>by
      rcases Bt q m with h2|h2
      · exact hall q b h2 hb
      · have:q=m:=by omega
        subst this;rw [hz2] at hb;cases hb;exact hc
     (repeat' (first|refine Run.ct rfl ?_|((first|refine Run.reg mixed ?_|refine Run.AE ?_|refine AI.det (HO _ _) ?_|refine AI.det (HP _ _) ?_|refine AI.det (GM _ _) ?_|(refine Ce rfl (fun h=>?_) (fun h=>?_)<;>try (cases h;done)))<;>try simp -implicitDefEqProofs only [hw0,hw1,Ac hlt,Cm hz,go_sem])|(refine ⟨fun h=>?_,fun h=>?_⟩<;>first|(cases h;done)|try simp only [h])|fail))
     all_goals first
      |exact ih (m+1) ⟨by omega,by omega,hstep (by simp_all [XD])⟩ (by omega)
      |(rw [hend (fun b hb=>by rw [hz2] at hb;cases hb;simp_all [XD])] at hk;refine Run.MF [0,5,6,7,8] ?_;simp -implicitDefEqProofs only [go_sem];exact hk)
   · (repeat' (first|refine Run.ct rfl ?_|((first|refine Run.reg mixed ?_|refine Run.AE ?_)<;>try simp -implicitDefEqProofs only [hw0,Bi hlt,go_sem])|fail))
     rw [hend (fun b hb=>by rw [BE,BI (by omega)] at hb;cases hb)] at hk
     refine Run.MF [0,5,6,7,8] ?_;simp -implicitDefEqProofs only [go_sem]
     exact hk
 · have:=(AR.1 hx).1;omega
 · intro q b hq hb
   have:q=0:=by omega
   subst this
   rw [BE,Ds,hx] at hb;cases hb;exact hw
theorem UZ (s:Str) (i:Nat) (x:UInt8) (hx:s[i]?=some x) (hw:ED H7 x=true) (hl:s.length≤16384) (σ1:AF) (a5 a7:AV) (K:AV→AF→Prop) (k:List CI)
 (hk:Run FV K k (put 0 (.d (.str s)) (put 5 a5 (put 6 (.d (.int .i64 i)) (put 7 a7 (put 8 (.d (.int .i64 (((s.drop i).takeWhile (ED H7)).length:Nat))) U))))) E σ1):
 Run FV K (.again PS::.blk 7::k) (put 0 (.d (.str s)) (put 5 a5 (put 6 (.d (.int .i64 i)) (put 7 a7 (put 8 (.d (.int .i64 1)) U))))) E σ1:=by
 refine Run.BK ((fun (a0:AV) (a5:AV) (a6:AV) (a7:AV)=>fun (m:Nat)=>put 0 a0 (put 5 a5 (put 6 a6 (put 7 a7 (put 8 (.d (.int .i64 m)) U))))) _ _ _ _) (fun _=>E) (fun _=>σ1) (fun m=>1≤m∧i+m≤s.length∧∀q b,q < m→(s.drop i)[q]?=some b→ED H7 b=true) (fun m=>s.length - m) ?_ 1 ⟨by omega,?_,?_⟩
 · rintro m ⟨h1,hm,hall⟩ ih
   have hw0:=wrap_add (show i+m≤9000000000000000000 by omega)
   have hw1:=A5 (show m+1≤9000000000000000000 by omega)
   have hend:(∀b,(s.drop i)[m]?=some b→ED H7 b=false)→((s.drop i).takeWhile (ED H7)).length=m:=fun h=>by
    rw [EP hall (by simp;omega) h];simp;omega
   by_cases hlt:i+m < s.length
   · obtain ⟨z,hz⟩:=BC hlt
     have hz2:(s.drop i)[m]?=some z:=by rw [BE];exact hz
     have hstep:ED H7 z=true→∀q b,q < m+1→(s.drop i)[q]?=some b→ED H7 b=true:=fun hc q b hq hb=>by
      rcases Bt q m with h2|h2
      · exact hall q b h2 hb
      · have:q=m:=by omega
        subst this;rw [hz2] at hb;cases hb;exact hc
     cases hd:H7 z.toNat with
     |true=>
      (repeat' (first|refine Run.ct rfl ?_|((first|refine Run.reg mixed ?_|refine Run.AE ?_|refine AI.det (GM _ _) ?_)<;>try simp -implicitDefEqProofs only [hw0,hw1,Ac hlt,Cm hz,hd,go_sem])|fail))
      exact ih (m+1) ⟨by omega,by omega,hstep hd⟩ (by omega)
     |false=>
      (repeat' (first|refine Run.ct rfl ?_|((first|refine Run.reg mixed ?_|refine Run.AE ?_|refine AI.det (GM _ _) ?_)<;>try simp -implicitDefEqProofs only [hw0,hw1,Ac hlt,Cm hz,hd,go_sem])|fail))
      rw [hend (fun b hb=>by rw [hz2] at hb;cases hb;exact hd)] at hk
      refine Run.MF [0,5,6,7,8] ?_;simp -implicitDefEqProofs only [go_sem]
      exact hk
   · (repeat' (first|refine Run.ct rfl ?_|((first|refine Run.reg mixed ?_|refine Run.AE ?_)<;>try simp -implicitDefEqProofs only [hw0,Bi hlt,go_sem])|fail))
     rw [hend (fun b hb=>by rw [BE,BI (by omega)] at hb;cases hb)] at hk
     refine Run.MF [0,5,6,7,8] ?_;simp -implicitDefEqProofs only [go_sem]
     exact hk
 · have:=(AR.1 hx).1;omega
 · intro q b hq hb
   have:q=0:=by omega
   subst this
   rw [BE,Ds,hx] at hb;cases hb;exact hw
theorem YI {c:UInt8→Bool} (s:Str) (i:Nat) (hi:i≤s.length):OZ (.d (.str s)) (some (.d (.int .i64 (i:Int)))) (some (.d (.int .i64 ((i+((s.drop i).takeWhile c).length:Nat):Int))))=some (.d (.str ((s.drop i).takeWhile c))):=by
 have h:=Eh c (s.drop i)
 rw [Br] at h
 rw [gY (by omega) (by omega),Ii,Kt]
 congr 3
 exact (List.prefix_iff_eq_take.1 (List.takeWhile_prefix c)).symm
theorem g0 (s:Str) (i n:Nat) (hi:i≤s.length) (hn:n≤(s.drop i).length):OZ (.d (.str s)) (some (.d (.int .i64 (i:Int)))) (some (.d (.int .i64 ((i+n:Nat):Int))))=some (.d (.str ((s.drop i).take n))):=by
 rw [Br] at hn
 rw [gY (by omega) (by omega),Ii,Kt]
theorem YG:∀(b:UInt8) (r:Str),Gm (b::r)≤(b::r).length
 |b,[]=>by simp only [Gm,Ww];split<;>simp
 |b,c::r=>by
  simp only [Gm]
  cases gV b c
  · simp only [Ww,AY,if_false];split<;>simp
  · simp
set_option maxHeartbeats 4000000 in
theorem Xo (s:Str) (σ:AF):AL Tryz.prog 117 [.d (.str s)] σ (fun v σ'=>v=Hq (GP s)∧σ'=σ):=by
 refine Yr (by simp) ?_
 rw [Bj]
 by_cases hl:s.length>16384
 · (repeat' (first|refine Run.ct rfl ?_|((first|refine Run.reg mixed ?_|refine Run.AE ?_|refine Run.A1 GB (AF.le_refl _) ?_)<;>try simp -implicitDefEqProofs only [e9,decide_eq_true hl,go_sem])|fail))
   simp [Hq,GP,hl]
 · (repeat' (first|refine Run.ct rfl ?_|((first|refine Run.reg mixed ?_|refine Run.AE ?_)<;>try simp -implicitDefEqProofs only [e9,decide_eq_false hl,go_sem])|fail))
   refine Run.BD ?_
   refine Run.BK ((fun (a0:AV)=>fun (y:Nat×AV×AF)=>put 0 a0 (put 5 (y.2.1) (put 6 (.d (.int .i64 y.1)) U))) _) (fun _=>E) (fun y=>y.2.2) (fun y=>y.1≤s.length∧∃acc n,Dh σ 195 3 (acc.map Tok.enc) y.2.1 y.2.2∧acc.length≤y.1∧s.length - y.1 < n∧GP s=MN n (s.drop y.1) y.1 acc) (fun y=>s.length - y.1) ?_ (0,.AZ,σ) ⟨by simp,[],s.length+1,Dh.nil _ _ _,by simp,by simp,by simp [GP,hl]⟩
   rintro ⟨i,v,σ1⟩ ⟨hi,acc,n,ho,hac,hn,hs⟩ ih
   simp only at hi ho hac hn hs
   obtain ⟨n,rfl⟩:∃m,n=m+1:=⟨n - 1,by omega⟩
   by_cases hlt:i < s.length
   · obtain ⟨x,hx⟩:=BC hlt
     rw [B3 hx,MN] at hs
     have hw1:=A5 (show i+1≤9000000000000000000 by omega)
     have hsl:(x::s.drop (i+1)).length=s.length - i:=by simp;omega
     cases hb:Y5 x.toNat with
     |true=>
      rw [hb,if_pos rfl] at hs
      (repeat' (first|refine Run.ct rfl ?_|((first|refine Run.reg mixed ?_|refine Run.AE ?_|(refine Ce rfl (fun h=>?_) (fun h=>?_)<;>try (cases h;done)))<;>try simp -implicitDefEqProofs only [Ac hlt,Cm hx,hw1,go_sem])|(refine ⟨fun h=>?_,fun h=>?_⟩<;>first|(cases h;done)|try simp only [h])|fail))
      all_goals first
       |exact ih (i+1,v,σ1) ⟨hlt,acc,n,ho,by simp only;omega,by simp only;omega,hs⟩ (by simp only;omega)
       |(exfalso;simp_all [Y5];done)
     |false=>
      rw [hb,if_neg (by simp)] at hs
      simp only [Y5,N7] at hb
      obtain ⟨⟨⟨h9,h10⟩,h13⟩,h32⟩:=hb
      cases hc:(x==35) with
      |true=>
       rw [hc,if_pos rfl] at hs
       (repeat' (first|refine Run.ct rfl ?_|((first|refine Run.reg mixed ?_|refine Run.AE ?_)<;>try simp -implicitDefEqProofs only [Ac hlt,Cm hx,h9,h10,h13,h32,Mu,hc,go_sem])|fail))
       refine Run.MF [0,5,6] ?_;simp -implicitDefEqProofs only [go_sem]
       refine Run.BD ?_
       refine Run.BK ((fun (a0:AV) (a5:AV)=>fun (j:Nat)=>put 0 a0 (put 5 a5 (put 6 (.d (.int .i64 j)) U))) _ _) (fun _=>E) (fun _=>σ1) (fun j=>i≤j∧j≤s.length∧∀q b,q < j - i→(s.drop i)[q]?=some b→(!(b==10))=true) (fun j=>s.length - j) ?_ i ⟨A0 i,hi,by intro q b hq;omega⟩
       rintro j ⟨hij,hj,hall⟩ ih2
       have hw2:=A5 (show j+1≤9000000000000000000 by omega)
       have hend:(∀z,s[j]?=some z→(z==10)=true)→j≠i∧GP s=MN n (s.drop j) j acc:=fun hz=>by
        have hji:j≠i:=fun e=>by
         subst e
         have h10:=hz x hx
         simp only [beq_iff_eq] at hc h10
         rw [hc] at h10;exact absurd h10 (by decide)
        have hk:cmt (x::s.drop (i+1))=j - i:=by
         rw [← B3 hx,cmt,EP hall (by simp;omega) (fun b hb=>by
          rw [BE,show i+(j - i)=j by omega] at hb
          simp [hz b hb])]
         simp;omega
        rw [hk,← B3 hx,Dp,show i+(j - i)=j by omega] at hs
        exact ⟨hji,hs⟩
       by_cases hjl:j < s.length
       · obtain ⟨z,hz⟩:=BC hjl
         have hz2:(s.drop i)[j - i]?=some z:=by rw [BE,show i+(j - i)=j by omega];exact hz
         cases h10:(z==10) with
         |true=>
          obtain ⟨hji,hs⟩:=hend (fun z' hz'=>by rw [hz] at hz';cases hz';exact h10)
          (repeat' (first|refine Run.ct rfl ?_|((first|refine Run.reg mixed ?_|refine Run.AE ?_)<;>try simp -implicitDefEqProofs only [Ac hjl,Cm hz,Wz,bne,h10,go_sem])|fail))
          refine Run.MF [0,5,6] ?_;simp -implicitDefEqProofs only [go_sem]
          exact ih (j,v,σ1) ⟨hj,acc,n,ho,by simp only;omega,by simp only;omega,hs⟩ (by simp only;omega)
         |false=>
          (repeat' (first|refine Run.ct rfl ?_|((first|refine Run.reg mixed ?_|refine Run.AE ?_)<;>try simp -implicitDefEqProofs only [Ac hjl,Cm hz,Wz,bne,h10,hw2,go_sem])|fail))
          refine ih2 (j+1) ⟨by omega,hjl,fun q b hq hb=>?_⟩ (by omega)
          rcases Bt q (j - i) with h2|h2
          · exact hall q b h2 hb
          · have:q=j - i:=by omega
            subst this
            rw [hz2] at hb;cases hb;simp [h10]
       · obtain ⟨hji,hs⟩:=hend (fun z hz=>by rw [BI (by omega)] at hz;cases hz)
         (repeat' (first|refine Run.ct rfl ?_|((first|refine Run.reg mixed ?_|refine Run.AE ?_)<;>try simp -implicitDefEqProofs only [Bi hjl,go_sem])|fail))
         refine Run.MF [0,5,6] ?_;simp -implicitDefEqProofs only [go_sem]
         exact ih (j,v,σ1) ⟨hj,acc,n,ho,by simp only;omega,by simp only;omega,hs⟩ (by simp only;omega)
      |false=>
       rw [hc,if_neg (by simp)] at hs
       have hld:s.drop i=x::s.drop (i+1):=B3 hx
       have hss:OZ (.d (.str s)) (some (.d (.int .i64 (i:Int)))) none=some (.d (.str (x::s.drop (i+1)))):=by rw [gZ hi,hld]
       -- behind a token
       have next:∀(k:Int) (t:Str) (v2:AV) (σ2:AF),Hl (x::s.drop (i+1))= .ok (k,t)→Dh σ 195 3 (acc.map Tok.enc++[[.int .i64 k,.str t,.int .i64 i]]) v2 σ2→
        1≤t.length∧i+t.length≤s.length∧(i+t.length≤s.length∧∃acc n,Dh σ 195 3 (acc.map Tok.enc) v2 σ2∧acc.length≤i+t.length∧s.length - (i+t.length) < n∧GP s=MN n (s.drop (i+t.length)) (i+t.length) acc):=fun k t v2 σ2 hsc ho2=>by
        have hsn:=YE hsc
        rw [hsl] at hsn
        rw [hsc] at hs
        refine ⟨hsn.1,by omega,by omega,acc++[⟨k,t,i⟩],n,by simpa [Tok.enc] using ho2,by simp only [AS,List.length_singleton];omega,by omega,?_⟩
        rw [hs];simp only;rw [← B3 hx,Dp]
       have fail:∀e:Int,Hl (x::s.drop (i+1))= .error e→GP s=([],i,e):=fun e he=>by rw [hs,he]
       have hwd:=YI (c:=ED HY) s i hi
       have hdd:=YI (c:=ED H7) s i hi
       have hsg:=g0 s i (Gm (x::s.drop (i+1))) hi (by rw [hld];exact YG _ _)
       have hwl:=Eh (ED HY) (s.drop i)
       have hdl:=Eh (ED H7) (s.drop i)
       have hsl2:=YG x (s.drop (i+1))
       have hL1:=UY s i x hx
       have hL2:=UZ s i x hx
       rw [hld] at hwd hdd hsg hwl hdl hL1 hL2
       simp only [hsl] at hwl hdl hsl2
       have hw0:=fun n (h:n≤s.length - i)=>wrap_add (show i+n≤9000000000000000000 by omega)
       have hap:∀(r:List DV),r.length=3→∀q∈[r],q.length=3:=fun r hr q hq=>by rw [Bd] at hq;rw [hq];exact hr
       have gt24':=nN
       have gt1':=gt1
       by_cases hlu:(V1 x.toNat||TJ x.toNat)=true
       · have hwx:ED HY x=true:=by rw [XD,hlu];rfl
         have hsc:Hl (x::s.drop (i+1))=if decide (((x::s.drop (i+1)).takeWhile (ED HY)).length>24) then .error 9
                                                                                 else if TJ x.toNat then .ok (2,(x::s.drop (i+1)).takeWhile (ED HY))
                                                                                 else if cI ((x::s.drop (i+1)).takeWhile (ED HY)) then .ok (4,(x::s.drop (i+1)).takeWhile (ED HY))
                                                                                 else .ok (1,(x::s.drop (i+1)).takeWhile (ED HY)):=by rw [Hl,if_pos hlu]
         have hL:=fun K k=>hL1 hwx (by omega) σ1 v (.d (.int .u8 x.toNat)) K k
         generalize ((x::s.drop (i+1)).takeWhile (ED HY))=w at hwd hwl hsc hL
         have hwn:=hw0 w.length hwl
         cases hup:TJ x.toNat<;>cases hlo:V1 x.toNat<;>rw [hup] at hsc<;>first|(simp only [hup,hlo,Bool.or_self,AY] at hlu;done)|skip
         all_goals (repeat' (first|refine Run.ct rfl ?_|((first|refine Run.reg mixed ?_|refine Run.AE ?_|(refine Run.BD ?_;refine Run.MF [0,5,6,7,8] ?_;simp -implicitDefEqProofs only [go_sem];refine hL _ _ ?_)|(refine EY.own ho rfl (by simp) (by simp;omega) (by decide) (fun v2 σ2 ho2 hbk=>?_))|(refine Run.A1 GB ho.le ?_)|refine AI.det (HO _ _) ?_|refine AI.det (HP _ _) ?_|refine AI.det (V3 _ _) ?_)<;>try simp -implicitDefEqProofs only [hup,hlo,Ac hlt,Cm hx,h9,h10,h13,h32,Mu,hc,hwn,hwd,gt24',ho.BO,AY,go_sem])|(refine ⟨fun h=>?_,fun h=>?_⟩<;>first|(cases h;done)|try simp only [h])|fail))
         all_goals first
          |(obtain ⟨p1,p2,p3⟩:=next _ w _ _ (by rw [hsc];simp only [*,AY,reduceIte,As,Bm,Au,B5,Bn,CC]) ho2;exact ih (i+w.length,_,_) p3 (by simp only;omega))
          |(rw [fail 9 (by rw [hsc];simp only [*,AY,reduceIte,As,Bm,Au,B5,Bn,CC])];simp [Hq];done)
       · simp only [Bool.not_eq_true,N7] at hlu
         have hnlu:¬(V1 x.toNat||TJ x.toNat)=true:=by simp [hlu]
         cases hdg:H7 x.toNat with
         |true=>
          have hsc:Hl (x::s.drop (i+1))=if x==48&&decide (((x::s.drop (i+1)).takeWhile (ED H7)).length>1) then .error 2
                                                                                         else if (LJ ((x::s.drop (i+1)).takeWhile (ED H7)) 0).isSome then .ok (3,(x::s.drop (i+1)).takeWhile (ED H7))
                                                                                         else .error 9:=by rw [Hl,if_neg hnlu,if_pos hdg]
          have hL:=fun K k=>hL2 hdg (by omega) σ1 v (.d (.int .u8 x.toNat)) K k
          generalize ((x::s.drop (i+1)).takeWhile (ED H7))=w at hdd hdl hsc hL
          have hwn:=hw0 w.length hdl
          have hval:=Xp w σ1 (by omega)
          cases hv:LJ w 0 with
          |some z=>
           rw [hv] at hval
           (repeat' (first|refine Run.ct rfl ?_|((first|refine Run.reg mixed ?_|refine Run.AE ?_|(refine Run.BD ?_;refine Run.MF [0,5,6,7,8] ?_;simp -implicitDefEqProofs only [go_sem];refine hL _ _ ?_)|(refine EY.own ho rfl (by simp) (by simp;omega) (by decide) (fun v2 σ2 ho2 hbk=>?_))|(refine Run.A1 GB ho.le ?_)|refine AI.det (HO _ _) ?_|refine AI.det (HP _ _) ?_|refine AI.det (GM _ _) ?_|refine AI.det (hval) ?_|(refine Ce rfl (fun h=>?_) (fun h=>?_)<;>try (cases h;done)))<;>try simp -implicitDefEqProofs only [Ac hlt,Cm hx,h9,h10,h13,h32,Mu,hc,hwn,hdd,gt1',g7,hlu.1,hlu.2,hdg,ho.BO,AY,go_sem])|(refine ⟨fun h=>?_,fun h=>?_⟩<;>first|(cases h;done)|try simp only [h])|fail))
           all_goals first
            |(obtain ⟨p1,p2,p3⟩:=next _ w _ _ (by rw [hsc];simp only [*,AY,reduceIte,As,Bm,Au,B5,Bn,CC]) ho2;exact ih (i+w.length,_,_) p3 (by simp only;omega))
            |(rw [fail 2 (by rw [hsc];simp only [*,AY,reduceIte,As,Bm,Au,B5,Bn,CC])];simp [Hq];done)
          |none=>
           rw [hv] at hval
           (repeat' (first|refine Run.ct rfl ?_|((first|refine Run.reg mixed ?_|refine Run.AE ?_|(refine Run.BD ?_;refine Run.MF [0,5,6,7,8] ?_;simp -implicitDefEqProofs only [go_sem];refine hL _ _ ?_)|(refine EY.own ho rfl (by simp) (by simp;omega) (by decide) (fun v2 σ2 ho2 hbk=>?_))|(refine Run.A1 GB ho.le ?_)|refine AI.det (HO _ _) ?_|refine AI.det (HP _ _) ?_|refine AI.det (GM _ _) ?_|refine AI.det (hval) ?_|(refine Ce rfl (fun h=>?_) (fun h=>?_)<;>try (cases h;done)))<;>try simp -implicitDefEqProofs only [Ac hlt,Cm hx,h9,h10,h13,h32,Mu,hc,hwn,hdd,gt1',g7,hlu.1,hlu.2,hdg,ho.BO,AY,go_sem])|(refine ⟨fun h=>?_,fun h=>?_⟩<;>first|(cases h;done)|try simp only [h])|fail))
           all_goals first
            |(rw [fail 2 (by rw [hsc];simp only [*,AY,reduceIte,As,Bm,Au,B5,Bn,CC])];simp [Hq];done)
            |(rw [fail 9 (by rw [hsc];simp only [*,AY,reduceIte,As,Bm,Au,B5,Bn,CC])];simp [Hq];done)
         |false=>
          have hsc:Hl (x::s.drop (i+1))=if (x::s.drop (i+1)).take (Gm (x::s.drop (i+1)))==[] then .error 2 else .ok (5,(x::s.drop (i+1)).take (Gm (x::s.drop (i+1)))):=by rw [Hl,if_neg hnlu,if_neg (by simp [hdg])]
          have hsk:=ZU (x::s.drop (i+1)) σ1 (by simp)
          have hwn:=hw0 (Gm (x::s.drop (i+1))) hsl2
          have htl:((x::s.drop (i+1)).take (Gm (x::s.drop (i+1)))).length=Gm (x::s.drop (i+1)):=by rw [Ai,hsl];omega
          generalize Gm (x::s.drop (i+1))=m at hsc hsk hwn hsg hsl2 htl
          generalize ((x::s.drop (i+1)).take m)=w at hsc hsg htl
          have hz:((m:Int)==0)=(w==[]):=by
           rw [Af];simp only [beq_iff_eq]
           rw [← List.length_eq_zero_iff,htl];omega
          cases hw:(w==[]) with
          |true=>
           (repeat' (first|refine Run.ct rfl ?_|((first|refine Run.reg mixed ?_|refine Run.AE ?_|(refine Run.A1 GB ho.le ?_)|refine AI.det (HO _ _) ?_|refine AI.det (HP _ _) ?_|refine AI.det (GM _ _) ?_|refine AI.det (hsk) ?_)<;>try simp -implicitDefEqProofs only [Ac hlt,Cm hx,h9,h10,h13,h32,Mu,hc,hss,hwn,hsg,hlu.1,hlu.2,hdg,hz,hw,ho.BO,AY,go_sem])|fail))
           rw [fail 2 (by rw [hsc,if_pos hw])];simp [Hq]
          |false=>
           (repeat' (first|refine Run.ct rfl ?_|((first|refine Run.reg mixed ?_|refine Run.AE ?_|(refine EY.own ho rfl (by simp) (by simp;omega) (by decide) (fun v2 σ2 ho2 hbk=>?_))|(refine Run.A1 GB ho.le ?_)|refine AI.det (HO _ _) ?_|refine AI.det (HP _ _) ?_|refine AI.det (GM _ _) ?_|refine AI.det (hsk) ?_)<;>try simp -implicitDefEqProofs only [Ac hlt,Cm hx,h9,h10,h13,h32,Mu,hc,hss,hwn,hsg,hlu.1,hlu.2,hdg,hz,hw,ho.BO,AY,go_sem])|fail))
           obtain ⟨p1,p2,p3⟩:=next 5 w _ _ (by rw [hsc,if_neg (by simp [hw])]) ‹_›
           rw [htl] at p1 p2 p3
           exact ih (i+m,_,_) p3 (by simp only;omega)
   · have hge:i=s.length:=by omega
     rw [hge,NJ,MN] at hs
     (repeat' (first|refine Run.ct rfl ?_|((first|refine Run.reg mixed ?_|refine Run.AE ?_|(refine EY.own ho rfl (by simp) (by simp;omega) (by decide) (fun v2 σ2 ho2 hbk=>?_))|(refine Run.A1 GB ho2.le ?_))<;>try simp -implicitDefEqProofs only [Bi hlt,go_sem])|fail))
     simp -implicitDefEqProofs only [ho2.BY,ho2.plain,go_sem]
     rw [hs];simp [Hq,Tok.enc]
end Go.Ab
