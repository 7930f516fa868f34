/- Valid programs, as the reference looks at them. The compact codes of the functions of this seat, computed out of the translation. Conditions: none. -/
import Derived.Test.YtlckhmkeihbhmaaGreatProg
import Derived.KernelRfl
import Derived.Test.YtlckhmkeihbhmaaGreatXUg
set_option linter.unusedSimpArgs false
set_option linter.unusedVariables false
set_option maxRecDepth 4000
set_option maxHeartbeats 8000000
open Nat renaming le_refl→A0,zero_add→An
open List renaming length_map→AA,map_cons→AH,map_nil→AM,take_of_length_le→AG,mem_of_getElem?→AS,length_cons→A5,length_nil→CQ
open Bool renaming eq_iff_iff→Af,not_eq_true'→Cf,and_self→K5,true_and→BD
namespace Go.Ab
open Go.Proofs
set_option maxHeartbeats 4000000 in
theorem Vk (ds:List DE) (fs:List FE) (σ σ3:AF) (j:Nat) (hle:σ.le σ3) (hb:σ3.blk j=some [.d (.int .i64 600)]) (hsj:σ.blk j=none) (hres:Cu ⟨ds,fs⟩=(fs.foldlM KY 600).isSome) (hf24:fs.length≤24):
 Run It (fun v σ'=>v= .d (.bool (Cu ⟨ds,fs⟩))∧σ'=σ) [.code (.loop QD),.blk 6,.code (.seq (.reg [⟨some 2,.mv (.c (.d (.bool true))),none⟩] [2]) .ret)] (put 1 (.lp 1 0) (put 7 (.gp j 0) (put 8 (.d (.int .i64 0)) U))) (BA 1 [.d (.sl (ds.map DE.enc)),.d (.sl (fs.map FE.enc))] E) σ3:=by
 refine Run.Ay ?_
 refine Run.nP (σ':=σ3.AQ j [.d (.int .i64 (Fp 600))]) (Hd hb) ?_
 refine Run.BB ((fun (a1:AV) (a7:AV)=>fun (y:Nat×Nat)=>put 1 a1 (put 7 a7 (put 8 (.d (.int .i64 y.1)) U))) _ _) (fun _=>BA 1 [.d (.sl (ds.map DE.enc)),.d (.sl (fs.map FE.enc))] E) (fun y=>σ3.AQ j [.d (.int .i64 (Fp y.2))])
  (fun y=>y.1≤fs.length∧y.2≤600∧(fs.take y.1).foldlM KY 600=some y.2) (fun y=>fs.length - y.1) ?_ (0,600) ⟨by simp,by simp,rfl⟩
 rintro ⟨i,q⟩ ⟨hi,hq,hok⟩ ih
 simp only at hi hq hok
 have hσ:∀z:Int,σ.le (σ3.AQ j [.d (.int .i64 z)]):=fun z=>Dc hle hsj
 by_cases hlt:i < fs.length
 · obtain ⟨x,hx⟩:=Aw hlt
   have he:=Aq (enc:=FE.enc) hx
   have hw1:=A7 (show i+1≤9000000000000000000 by omega)
   have hnm:=DC x.name 1 (σ3.AQ j [.d (.int .i64 (Fp q))])
   rw [show GJ 1 x.name=Cv x.name from rfl] at hnm
   have hps:=Hc x.params true (σ3.AQ j [.d (.int .i64 (Fp q))])
   rw [OS] at hps
   have hc:=Tt j 40 q (A0 _) hq x.body (σ3.AQ j [.d (.int .i64 (Fp q))]) (by simp only [AP,if_true])
   rw [show ((40:Nat):Int)=40 from rfl] at hc
   have hno:KY q x=none→fs.foldlM KY 600=none:=fun h=>Ie hok hx h
   have hyes:∀r,KY q x=some r→(fs.take (i+1)).foldlM KY 600=some r:=fun r h=>by rw [If hok hx,h]
   have hvf:KY q x=if Cv x.name&&(decide (x.params.length≤6)&&x.params.all Cv) then vEx 40 q x.body else none:=by
    unfold KY X0;rw [Bool.and_assoc]
   generalize (decide (x.params.length≤6)&&x.params.all Cv)=bp at hps hvf
   cases h1:Cv x.name with
   |false=>
    rw [h1] at hnm hvf
    obtain ⟨nm,ps,o,n,u,ns,ks,al⟩:=x
    simp only [FE.enc,Ex.A3] at he hnm
    (repeat' (first|refine Run.ct rfl ?_|((first|refine Run.reg mixed ?_|refine Run.AD ?_|(refine Run.A1 Cy (σ2:=σ) (hσ _) ?_)|refine AI.det (hnm) ?_)<;>try simp -implicitDefEqProofs only [A8 hlt,he,AA,go_sem])|fail))
    rw [hres,hno hvf];rfl
   |true=>
   rw [h1] at hnm
   cases bp with
   |false=>
    rw [h1] at hvf
    obtain ⟨nm,ps,o,n,u,ns,ks,al⟩:=x
    simp only [FE.enc,Ex.A3] at he hnm hps
    (repeat' (first|refine Run.ct rfl ?_|((first|refine Run.reg mixed ?_|refine Run.AD ?_|(refine Run.A1 Cy (σ2:=σ) (hσ _) ?_)|refine AI.det (hnm) ?_|refine AI.det (hps) ?_)<;>try simp -implicitDefEqProofs only [A8 hlt,he,AA,go_sem])|fail))
    rw [hres,hno hvf];rfl
   |true=>
   rw [h1] at hvf
   cases hv:vEx 40 q x.body with
   |some r=>
    have hr:=PL _ _ _ _ hv
    rw [hv] at hvf
    have hc:=VXQ.yes hc hv
    have hs:=hyes r hvf
    obtain ⟨nm,ps,o,n,u,ns,ks,al⟩:=x
    simp only [FE.enc,Ex.A3,exA,AH,AM] at he hnm hps hc
    (repeat' (first|refine Run.ct rfl ?_|((first|refine Run.reg mixed ?_|refine Run.AD ?_|(refine AI.mk rfl hc ?_;rintro _ _ ⟨rfl,rfl⟩)|refine AI.det (hnm) ?_|refine AI.det (hps) ?_)<;>try simp -implicitDefEqProofs only [A8 hlt,he,hw1,AA,go_sem])|fail))
    exact ih (i+1,r) ⟨by simp only;omega,by simp only;omega,hs⟩ (by simp only;omega)
   |none=>
    rw [hv] at hvf
    have hc:=VXQ.no hc hv
    obtain ⟨nm,ps,o,n,u,ns,ks,al⟩:=x
    simp only [FE.enc,Ex.A3,exA,AH,AM] at he hnm hps hc
    (repeat' (first|refine Run.ct rfl ?_|((first|refine Run.reg mixed ?_|refine Run.AD ?_|(refine AI.mk rfl hc ?_;rintro _ _ ⟨rfl,z,rfl⟩)|(refine Run.A1 Cy (σ2:=σ) (hσ _) ?_)|refine AI.det (hnm) ?_|refine AI.det (hps) ?_)<;>try simp -implicitDefEqProofs only [A8 hlt,he,hw1,AA,go_sem])|fail))
    rw [hres,hno hvf];rfl
 · rw [AG (by omega)] at hok
   (repeat' (first|refine Run.ct rfl ?_|((first|refine Run.reg mixed ?_|refine Run.AD ?_|(refine Run.A1 Cy (σ2:=σ) (hσ _) ?_))<;>try simp -implicitDefEqProofs only [B8 hlt,AA,go_sem])|fail))
   rw [hres,hok];rfl
set_option maxHeartbeats 4000000 in
theorem Zp (p:Pg) (σ:AF) (h:∀d∈p.data,HT d):AK Tryz.prog 58 [pgA p] σ (fun v σ'=>v= .d (.bool (Cu p))∧σ'=σ):=by
 obtain ⟨ds,fs⟩:=p
 refine cG (by simp) ?_
 rw [Bf,pgA]
 simp only [Pg.enc,AH,AM] at h ⊢
 have h12:decide ((12:Int) < (ds.length:Int))=!decide (ds.length≤12):=gtN _ 12
 have h24:decide ((24:Int) < (fs.length:Int))=!decide (fs.length≤24):=gtN _ 24
 by_cases hd:ds.length≤12
 case neg=>
  (repeat' (first|refine Run.ct rfl ?_|((first|refine Run.reg mixed ?_|refine Run.AD ?_|refine Run.A1 Cy (AF.le_refl _) ?_)<;>try simp -implicitDefEqProofs only [AA,h12,decide_eq_false hd,go_sem])|fail))
  simp [Cu,hd]
 by_cases hf:fs.length≤24
 case neg=>
  (repeat' (first|refine Run.ct rfl ?_|((first|refine Run.reg mixed ?_|refine Run.AD ?_|refine Run.A1 Cy (AF.le_refl _) ?_)<;>try simp -implicitDefEqProofs only [AA,h12,decide_eq_true hd,h24,decide_eq_false hf,go_sem])|fail))
  simp [Cu,hf]
 have hres:Cu ⟨ds,fs⟩=(ds.all L5&&(fs.foldlM KY 600).isSome):=by simp [Cu,hd,hf]
 have hbad:∀d∈ds,L5 d=false→Cu ⟨ds,fs⟩=false:=fun d hm hb=>by
  rw [hres,List.all_eq_false.2 ⟨d,hm,by simp [hb]⟩];rfl
 (repeat' (first|refine Run.ct rfl ?_|((first|refine Run.reg mixed ?_|refine Run.AD ?_)<;>try simp -implicitDefEqProofs only [AA,h12,decide_eq_true hd,h24,decide_eq_true hf,go_sem])|fail))
 refine Run.Ay ?_
 refine Run.BB ((fun (a1:AV)=>fun (i:Nat)=>put 1 a1 (put 3 (.d (.int .i64 i)) U)) _) (fun _=>BA 1 [.d (.sl (ds.map DE.enc)),.d (.sl (fs.map FE.enc))] E) (fun _=>σ) (fun i=>i≤ds.length∧(ds.take i).all L5=true) (fun i=>ds.length - i) ?_ 0 ⟨by simp,by simp⟩
 rintro i ⟨hi,hok⟩ ih
 by_cases hlt:i < ds.length
 · obtain ⟨x,hx⟩:=Aw hlt
   have hxm:=AS hx
   have he:=Aq (enc:=DE.enc) hx
   have hw1:=A7 (show i+1≤9000000000000000000 by omega)
   have hxs:=h x hxm
   have hbx:=hbad x hxm
   have hs:=fun hp=>JA (p:=L5) hok hx hp
   have hnm:=DC x.name 2 σ
   rw [show GJ 2 x.name=FI x.name from rfl] at hnm
   have hbs:=Hc x.vars true σ
   rw [OS] at hbs
   have h8:decide ((8:Int) < (x.cons.length:Int))=!decide (x.cons.length≤8):=gtN _ 8
   have hl1:decide ((x.cons.length:Int) < 1)=!decide (1≤x.cons.length):=by
    rw [Af];simp only [decide_eq_true_eq,Cf,decide_eq_false_iff_not];omega
   have hdx:L5 x=(((FI x.name&&(decide (x.vars.length≤6)&&x.vars.all Cv))&&(decide (1≤x.cons.length)&&decide (x.cons.length≤8)))&&x.cons.all Wd):=by
    simp [L5,Bool.and_assoc]
   obtain ⟨nm,vs,cs⟩:=x
   simp only [DE.enc] at he hnm hbs h8 hl1 hdx hxs
   cases hA:FI nm with
   |false=>
    rw [hA] at hnm hdx
    (repeat' (first|refine Run.ct rfl ?_|((first|refine Run.reg mixed ?_|refine Run.AD ?_|refine Run.A1 Cy (AF.le_refl _) ?_|refine AI.det (hnm) ?_)<;>try simp -implicitDefEqProofs only [A8 hlt,he,AA,go_sem])|fail))
    rw [hbx hdx]
   |true=>
   rw [hA] at hnm
   cases hB:(decide (vs.length≤6)&&vs.all Cv) with
   |false=>
    rw [hB] at hbs
    rw [hA,hB] at hdx
    (repeat' (first|refine Run.ct rfl ?_|((first|refine Run.reg mixed ?_|refine Run.AD ?_|refine Run.A1 Cy (AF.le_refl _) ?_|refine AI.det (hnm) ?_|refine AI.det (hbs) ?_)<;>try simp -implicitDefEqProofs only [A8 hlt,he,AA,go_sem])|fail))
    rw [hbx hdx]
   |true=>
   rw [hB] at hbs
   by_cases hC:1≤cs.length
   case neg=>
    rw [decide_eq_false hC] at hl1 hdx
    (repeat' (first|refine Run.ct rfl ?_|((first|refine Run.reg mixed ?_|refine Run.AD ?_|refine Run.A1 Cy (AF.le_refl _) ?_|refine AI.det (hnm) ?_|refine AI.det (hbs) ?_)<;>try simp -implicitDefEqProofs only [A8 hlt,he,AA,hl1,go_sem])|fail))
    rw [hbx (by rw [hdx];simp)]
   rw [decide_eq_true hC] at hl1
   by_cases hD:cs.length≤8
   case neg=>
    rw [decide_eq_false hD] at h8 hdx
    (repeat' (first|refine Run.ct rfl ?_|((first|refine Run.reg mixed ?_|refine Run.AD ?_|refine Run.A1 Cy (AF.le_refl _) ?_|refine AI.det (hnm) ?_|refine AI.det (hbs) ?_)<;>try simp -implicitDefEqProofs only [A8 hlt,he,AA,hl1,h8,go_sem])|fail))
    rw [hbx (by rw [hdx];simp)]
   rw [decide_eq_true hD] at h8
   rw [hA,hB,decide_eq_true hC,decide_eq_true hD] at hdx
   simp only [K5,BD] at hdx
   rw [hdx] at hbx hs
   (repeat' (first|refine Run.ct rfl ?_|((first|refine Run.reg mixed ?_|refine Run.AD ?_|refine AI.det (hnm) ?_|refine AI.det (hbs) ?_)<;>try simp -implicitDefEqProofs only [A8 hlt,he,AA,hl1,h8,go_sem])|fail))
   refine Run.Ay ?_
   refine Run.BB ((fun (a1:AV) (a3:AV) (a4:AV)=>fun (k:Nat)=>put 1 a1 (put 3 a3 (put 4 a4 (put 5 (.d (.int .i64 k)) U)))) _ _ _) (fun _=>BA 1 [.d (.sl (ds.map DE.enc)),.d (.sl (fs.map FE.enc))] (BA 4 [.d (.str nm),.d (.sl (vs.map Ak)),.d (.sl (cs.map CE.enc))] E)) (fun _=>σ) (fun k=>k≤cs.length∧(cs.take k).all Wd=true) (fun k=>cs.length - k) ?_ 0 ⟨by simp,by simp⟩
   rintro k ⟨hk,hokc⟩ ih2
   by_cases hkl:k < cs.length
   · obtain ⟨c,hc⟩:=Aw hkl
     have hcm:=AS hc
     have hec:=Aq (enc:=CE.enc) hc
     have hwk:=A7 (show k+1≤9000000000000000000 by omega)
     have hcs:=hxs c hcm
     have hbc:Wd c=false→Cu ⟨ds,fs⟩=false:=fun hb=>hbx (List.all_eq_false.2 ⟨c,hcm,by simp [hb]⟩)
     have hsc:=fun hp=>JA (p:=Wd) hokc hc hp
     have hcn:=DC c.name 2 σ
     rw [show GJ 2 c.name=FI c.name from rfl] at hcn
     have h6:decide ((6:Int) < (c.args.length:Int))=!decide (c.args.length≤6):=gtN _ 6
     have hcx:Wd c=(FI c.name&&decide (c.args.length≤6)&&c.args.all (Dx 40)):=rfl
     obtain ⟨cn,ar⟩:=c
     simp only [CE.enc] at hec hcn h6 hcx hcs
     cases hE:FI cn with
     |false=>
      rw [hE] at hcn hcx
      (repeat' (first|refine Run.ct rfl ?_|((first|refine Run.reg mixed ?_|refine Run.AD ?_|refine Run.A1 Cy (AF.le_refl _) ?_|refine AI.det (hcn) ?_)<;>try simp -implicitDefEqProofs only [A8 hkl,hec,AA,go_sem])|fail))
      rw [hbc hcx]
     |true=>
     rw [hE] at hcn
     by_cases hF:ar.length≤6
     case neg=>
      rw [decide_eq_false hF] at h6 hcx
      (repeat' (first|refine Run.ct rfl ?_|((first|refine Run.reg mixed ?_|refine Run.AD ?_|refine Run.A1 Cy (AF.le_refl _) ?_|refine AI.det (hcn) ?_)<;>try simp -implicitDefEqProofs only [A8 hkl,hec,AA,h6,go_sem])|fail))
      rw [hbc (by rw [hcx];simp)]
     rw [decide_eq_true hF] at h6
     rw [hE,decide_eq_true hF] at hcx
     simp only [K5,BD] at hcx
     rw [hcx] at hbc hsc
     (repeat' (first|refine Run.ct rfl ?_|((first|refine Run.reg mixed ?_|refine Run.AD ?_|refine AI.det (hcn) ?_)<;>try simp -implicitDefEqProofs only [A8 hkl,hec,AA,h6,go_sem])|fail))
     refine Run.Ay ?_
     refine Run.BB ((fun (a1:AV) (a3:AV) (a4:AV) (a5:AV)=>fun (a:Nat)=>put 1 a1 (put 3 a3 (put 4 a4 (put 5 a5 (put 6 (.d (.int .i64 a)) U))))) _ _ _ _) (fun _=>BA 1 [.d (.sl (ds.map DE.enc)),.d (.sl (fs.map FE.enc))] (BA 4 [.d (.str nm),.d (.sl (vs.map Ak)),.d (.sl (cs.map CE.enc))] E)) (fun _=>σ) (fun a=>a≤ar.length∧(ar.take a).all (Dx 40)=true) (fun a=>ar.length - a) ?_ 0 ⟨by simp,by simp⟩
     rintro a ⟨ha,hoka⟩ ih3
     by_cases hal:a < ar.length
     · obtain ⟨t,ht⟩:=Aw hal
       have htm:=AS ht
       have het:=Aq (enc:=TE.enc) ht
       have hwa:=A7 (show a+1≤9000000000000000000 by omega)
       have hv:=Tu 40 t σ (A0 _) (hcs t htm)
       rw [show ((40:Nat):Int)=40 from rfl] at hv
       cases hp:Dx 40 t with
       |true=>
        rw [hp] at hv
        obtain ⟨tk,tn,tl⟩:=t
        simp only [TE.A3,teA,AH,AM] at het hv
        (repeat' (first|refine Run.ct rfl ?_|((first|refine Run.reg mixed ?_|refine Run.AD ?_|refine AI.det (hv) ?_)<;>try simp -implicitDefEqProofs only [A8 hal,hec,het,hwa,AA,go_sem])|fail))
        exact ih3 (a+1) ⟨by omega,JA hoka ht hp⟩ (by omega)
       |false=>
        rw [hp] at hv
        obtain ⟨tk,tn,tl⟩:=t
        simp only [TE.A3,teA,AH,AM] at het hv
        (repeat' (first|refine Run.ct rfl ?_|((first|refine Run.reg mixed ?_|refine Run.AD ?_|refine Run.A1 Cy (AF.le_refl _) ?_|refine AI.det (hv) ?_)<;>try simp -implicitDefEqProofs only [A8 hal,hec,het,hwa,AA,go_sem])|fail))
        rw [hbc (U5 ht hp)]
     · rw [AG (by omega)] at hoka
       (repeat' (first|refine Run.ct rfl ?_|((first|refine Run.reg mixed ?_|refine Run.AD ?_)<;>try simp -implicitDefEqProofs only [B8 hal,hec,hwk,AA,go_sem])|fail))
       exact ih2 (k+1) ⟨by omega,hsc hoka⟩ (by omega)
   · rw [AG (by omega)] at hokc
     (repeat' (first|refine Run.ct rfl ?_|((first|refine Run.reg mixed ?_|refine Run.AD ?_)<;>try simp -implicitDefEqProofs only [B8 hkl,hw1,AA,go_sem])|fail))
     exact ih (i+1) ⟨by omega,hs hokc⟩ (by omega)
 · rw [AG (by omega)] at hok
   rw [hok,BD] at hres
   clear ih
   (repeat' (first|refine Run.ct rfl ?_|((first|refine Run.reg mixed ?_|refine Run.AD ?_)<;>try simp -implicitDefEqProofs only [B8 hlt,AA,go_sem])|fail))
   intro j hj
   obtain ⟨hle3,hb⟩:=jT (z:=[.d (.int .i64 0)]) (x:=([AV.d (.int .i64 0)].length,3)) hj
   simp only [A5,CQ,An] at hle3 hb
   generalize (σ.AQ j [.d (.int .i64 0)]).DO j (1,3)=σ3 at hle3 hb ⊢
   simp -implicitDefEqProofs only [hb,go_sem]
   (repeat' (first|refine Run.ct rfl ?_|((first|refine Run.reg mixed ?_|refine Run.AD ?_)<;>try simp -implicitDefEqProofs only [hb,AA,go_sem])|fail))
   exact Vk ds fs σ (σ3.AQ j [.d (.int .i64 600)]) j (Dc hle3 hj.1) (by simp only [AP,if_true]) hj.1 hres hf
end Go.Ab
namespace Go.Ab
open Go.Proofs
variable {args:List AV} {σ:AF} {K:AV→AF→Prop}
def SH:C:=(.seq (.reg [Qo 35 (.bin .lss (.t 34) (.t 33))] [1,3,4,18,19,20,32,33,34,35])
 (.seq (.cond (.t 35) .skip
 (.exit 2))
 (.seq (.block 3 (.seq (.reg [Qm 36 34,
 Qo 37 (.ix (.t 32) (.t 34) 1),
 Qo 38 (.ld (.t 37) none),
 Qm 7 36,
 Qm 8 38] [1,3,4,7,8,18,19,20,32,33,34])
 (.seq (.reg [Qm 39 8] [1,3,4,7,18,19,20,32,33,34,39])
 (.cond (.t 39) (.reg [Qm 40 3,
 Qm 41 4,
 Qm 42 3,
 Qm 43 4,
 Qo 44 (.ix (.t 42) (.t 43) 1),
 Qo 45 (.ld (.t 44) none),
 Qm 46 7,
 Qo 47 (.bsl 1 1 [(.d (.int .i64 0))] [(0,1,(.t 46))]),
 Qo 48 (.app 3 1 8 (.t 45) (.t 47)),
 Qo 49 (.ix (.t 40) (.t 41) 1),
 ⟨none,.st (.t 49) (.t 48) 1,none⟩] [1,3,4,18,19,20,32,33,34])
 .skip))))
 (.reg [Qo 50 (.bin .add (.t 34) (.c (.d (.int .i64 1)))),
 Qm 34 50] [1,3,4,18,19,20,32,33,34]))))
def SI:C:=(.seq (.reg [Qo 21 (.bin .lss (.t 20) (.t 19))] [1,3,18,19,20,21])
 (.seq (.cond (.t 21) .skip
 (.exit 0))
 (.seq (.block 1 (.seq (.reg [Qm 22 20,
 Qo 23 (.ix (.t 18) (.t 20) 8),
 Qo 24 (.ld (.t 23) (some 8)),
 Qo 5 (.al [(.d (.str [])),.AU,(.d (.int .i64 0)),(.d (.str [])),(.d (.int .i64 0)),.AU,.AU,.AU] false),
 Qm 4 22,
 ⟨none,.st (.t 5) (.t 24) 8,none⟩] [1,3,4,5,18,19,20])
 (.seq (.reg [Qo 25 (.fld (.t 1) 1),
 Qo 26 (.ld (.t 25) none),
 Qo 27 (.len (.t 26)),
 Qo 28 (.msl 4 1 1 [(.d (.bool false))] (.t 27) (.t 27)),
 Qo 6 (.ex (.alt 78 [.AU]) []),
 ⟨none,.st (.t 6) (.t 28) 1,none⟩] [1,3,4,5,6,18,19,20])
 (.seq (.reg [Qo 29 (.ldl (.t 5) (some 8)),
 Qo 30 (.mkf 31 [] [(.t 6),(.t 1)]),
 Qo 31 (.call 30 [(.t 29),(.t 30)])] [1,3,4,6,18,19,20])
 (.seq (.reg [Qo 32 (.ld (.t 6) none),
 Qo 33 (.len (.t 32)),
 Qo 34 (.mv (.c (.d (.int .i64 0))))] [1,3,4,18,19,20,32,33,34])
 (.block 2 (.loop SH)))))))
 (.reg [Qo 51 (.bin .add (.t 20) (.c (.d (.int .i64 1)))),
 Qm 20 51] [1,3,18,19,20]))))
def QE:C:=(.seq (.reg [Qo 1 (.box (.t 0) true),
 Qo 2 (.mv (.c .AU))] [1])
 (.seq (.seq (.reg [Qo 9 (.ld (.t 1) (some 2)),
 Qo 10 (.call 18 [(.t 9)]),
 Qo 11 (.fd (.t 10) 0 none),
 Qo 12 (.bin .neq (.t 11) (.c (.d (.int .i64 0))))] [1,12])
 (.cond (.t 12) (.seq (.reg [Qo 2 (.mv (.c .AU))] [2])
 .ret)
 .skip))
 (.seq (.reg [Qo 13 (.fld (.t 1) 1),
 Qo 14 (.ld (.t 13) none),
 Qo 15 (.len (.t 14)),
 Qo 16 (.msl 35 1 24 [.AU] (.t 15) (.t 15)),
 Qm 3 16] [1,3])
 (.seq (.seq (.reg [Qo 17 (.fld (.t 1) 1),
 Qo 18 (.ld (.t 17) none),
 Qo 19 (.len (.t 18)),
 Qo 20 (.mv (.c (.d (.int .i64 0))))] [1,3,18,19,20])
 (.block 0 (.loop SI)))
 (.seq (.reg [Qm 52 3,
 Qm 2 52] [2])
 .ret)))))
noncomputable def HI:Cx:=⟨Tryz.prog,10,Tryz.f10,53,[1,6,300029],[],[.t 2]⟩
theorem Ll:Good HI:=⟨Tryz.func10,by kernel_rfl⟩
theorem PA:HI.rs=[.t 2]:=rfl
theorem Wh (hl:args.length≤53) (h:Run HI K [.code QE] (BK args) E σ):AK Tryz.prog 10 args σ K:=
 AX (cx:=HI) (code:=Tryz.f10.body.getD .skip) Ll (by kernel_rfl) Tryz.ntmps10 hl (AY HI _ (B0 QE) _ [] (by kernel_rfl)) h
def OX:C:=(.seq (.reg [Qo 1 (.box (.t 0) false),
 Qo 2 (.mv (.c .AU))] [1])
 (.seq (.reg [Qo 3 (.ldl (.t 1) (some 2)),
 Qo 4 (.call 10 [(.t 3)]),
 Qo 5 (.call 35 [(.t 4)]),
 Qm 2 5] [2])
 .ret))
noncomputable def Gb:Cx:=⟨Tryz.prog,12,Tryz.f12,6,[300003],[],[.t 2]⟩
theorem Ob:Good Gb:=⟨Tryz.func12,by kernel_rfl⟩
theorem UB:Gb.rs=[.t 2]:=rfl
theorem VO (hl:args.length≤6) (h:Run Gb K [.code OX] (BK args) E σ):AK Tryz.prog 12 args σ K:=
 AX (cx:=Gb) (code:=Tryz.f12.body.getD .skip) Ob (by kernel_rfl) Tryz.ntmps12 hl (AY Gb _ (B0 OX) _ [] (by kernel_rfl)) h
def SJ:C:=(.seq (.reg [Qo 26 (.bin .lss (.t 25) (.t 24))] [1,2,5,23,24,25,26])
 (.seq (.cond (.t 26) .skip
 (.exit 0))
 (.seq (.block 1 (.seq (.reg [Qm 27 25,
 Qo 28 (.ix (.t 23) (.t 25) 8),
 Qo 29 (.ld (.t 28) (some 8)),
 Qo 7 (.al [(.d (.str [])),.AU,(.d (.int .i64 0)),(.d (.str [])),(.d (.int .i64 0)),.AU,.AU,.AU] false),
 Qm 6 27,
 ⟨none,.st (.t 7) (.t 29) 8,none⟩] [1,2,5,6,7,23,24,25])
 (.seq (.seq (.reg [Qo 30 (.ldl (.t 1) (some 2)),
 Qo 31 (.fld (.t 7) 0),
 Qo 32 (.ldl (.t 31) none),
 Qo 33 (.call 33 [(.t 30),(.t 32)]),
 Qm 34 6,
 Qo 35 (.bin .lss (.t 33) (.t 34)),
 Qm 36 35,
 ⟨some 37,.fld (.t 7) 1,some (36,false)⟩,
 ⟨some 38,.ldl (.t 37) none,some (36,false)⟩,
 ⟨some 39,.call 45 [(.t 38)],some (36,false)⟩,
 Qo 40 (.pick (.t 36) (.c (.d (.bool true))) (.t 39))] [1,2,5,6,7,23,24,25,40])
 (.cond (.t 40) (.seq (.reg [Qm 41 6,
 Qo 42 (.bld [(.d (.int .i64 0)),(.d (.int .i64 0)),(.d (.int .i64 0))] [(0,1,(.c (.d (.int .i64 4)))),(1,1,(.t 41))]),
 ⟨none,.st (.t 2) (.t 42) 3,none⟩] [2])
 .ret)
 .skip))
 (.seq (.reg [Qo 44 (.ldl (.t 7) (some 8)),
 Qo 45 (.ldl (.t 5) (some 3)),
 Qo 46 (.mkf 46 [(.t 45)] []),
 Qo 47 (.call 30 [(.t 44),(.t 46)]),
 Qm 43 47,
 Qo 48 (.ext (.t 43) 0),
 Qo 49 (.ext (.t 43) 1),
 Qm 8 48,
 Qm 9 49] [1,2,5,6,8,9,23,24,25])
 (.seq (.reg [Qm 50 9,
 Qo 51 (.bin .neq (.t 50) (.c (.d (.int .i64 0))))] [1,2,5,6,8,9,23,24,25,51])
 (.cond (.t 51) (.seq (.reg [Qm 52 9,
 Qm 53 6,
 Qm 54 8,
 Qo 55 (.bld [(.d (.int .i64 0)),(.d (.int .i64 0)),(.d (.int .i64 0))] [(0,1,(.t 52)),(1,1,(.t 53)),(2,1,(.t 54))]),
 ⟨none,.st (.t 2) (.t 55) 3,none⟩] [2])
 .ret)
 .skip))))))
 (.reg [Qo 56 (.bin .add (.t 25) (.c (.d (.int .i64 1)))),
 Qm 25 56] [1,2,5,23,24,25]))))
def QF:C:=(.seq (.reg [Qo 1 (.box (.t 0) false),
 Qo 2 (.al [(.d (.int .i64 0)),(.d (.int .i64 0)),(.d (.int .i64 0))] false)] [1,2])
 (.seq (.reg [Qo 11 (.ldl (.t 1) (some 2)),
 Qo 12 (.call 44 [(.t 11)]),
 Qm 10 12,
 Qo 13 (.ext (.t 10) 0),
 Qo 14 (.ext (.t 10) 1),
 Qo 4 (.al [(.d (.int .i64 0)),(.d (.int .i64 0)),(.d (.int .i64 0))] false),
 Qm 3 13,
 ⟨none,.st (.t 4) (.t 14) 3,none⟩] [1,2,3,4])
 (.seq (.seq (.reg [Qo 15 (.fld (.t 4) 0),
 Qo 16 (.ldl (.t 15) none),
 Qo 17 (.bin .neq (.t 16) (.c (.d (.int .i64 0))))] [1,2,3,4,17])
 (.cond (.t 17) (.seq (.reg [Qo 18 (.ldl (.t 4) (some 3)),
 ⟨none,.st (.t 2) (.t 18) 3,none⟩] [2])
 .ret)
 .skip))
 (.seq (.reg [Qo 19 (.ldl (.t 1) (some 2)),
 Qm 20 3,
 Qo 21 (.bld [.AU,.AU,.AU] [(0,2,(.t 19)),(2,1,(.t 20))]),
 Qo 5 (.al [.AU,.AU,.AU] false),
 ⟨none,.st (.t 5) (.t 21) 3,none⟩] [1,2,5])
 (.seq (.seq (.reg [Qo 22 (.fld (.t 1) 1),
 Qo 23 (.ldl (.t 22) none),
 Qo 24 (.len (.t 23)),
 Qo 25 (.mv (.c (.d (.int .i64 0))))] [1,2,5,23,24,25])
 (.block 0 (.loop SJ)))
 (.seq (.reg [Qo 57 (.bld [(.d (.int .i64 0)),(.d (.int .i64 0)),(.d (.int .i64 0))] []),
 ⟨none,.st (.t 2) (.t 57) 3,none⟩] [2])
 .ret))))))
noncomputable def HJ:Cx:=⟨Tryz.prog,18,Tryz.f18,58,[300011,300016,300018,300019,300023,300030,300032,300038,300044,300045],[],[.c 2 (some 3)]⟩
theorem Fl:Good HJ:=⟨Tryz.func18,by kernel_rfl⟩
theorem Vo:HJ.rs=[.c 2 (some 3)]:=rfl
theorem Wi (hl:args.length≤58) (h:Run HJ K [.code QF] (BK args) E σ):AK Tryz.prog 18 args σ K:=
 AX (cx:=HJ) (code:=Tryz.f18.body.getD .skip) Fl (by kernel_rfl) Tryz.ntmps18 hl (AY HJ _ (B0 QF) _ [] (by kernel_rfl)) h
def Nh:C:=(.seq (.reg [Qo 2 (.box (.t 0) false),
 Qo 4 (.mv (.c (.d (.int .i64 0)))),
 Qo 5 (.mv (.c (.d (.int .i64 0))))] [1,2])
 (.seq (.reg [Qm 9 1,
 Qo 10 (.bld [(.d (.int .i64 0)),.IS] [(1,1,(.t 9))]),
 Qo 11 (.box (.t 10) true),
 Qm 6 11] [2,6])
 (.seq (.reg [Qo 7 (.mv (.c .FD))] [2,6,7])
 (.seq (.reg [Qm 12 6,
 Qo 13 (.fld (.t 2) 2),
 Qo 14 (.ldl (.t 13) (some 6)),
 Qm 15 7,
 Qo 16 (.fld (.t 2) 1),
 Qo 17 (.ldl (.t 16) none),
 Qo 18 (.call 64 [(.t 15),(.t 17)]),
 Qo 19 (.call 63 [(.t 12),(.t 14),(.t 18)]),
 Qm 8 19] [6,8])
 (.seq (.reg [Qm 20 6,
 Qo 21 (.nck (.t 20)),
 Qo 22 (.fld (.t 21) 0),
 Qo 23 (.ld (.t 22) none),
 Qm 24 8,
 Qm 4 23,
 Qm 5 24] [4,5])
 .ret)))))
noncomputable def Fh:Cx:=⟨Tryz.prog,30,Tryz.f30,25,[11,300014,300017],[],[.t 4,.t 5]⟩
theorem Jh:Good Fh:=⟨Tryz.func30,by kernel_rfl⟩
theorem Ss:Fh.rs=[.t 4,.t 5]:=rfl
theorem Tm (hl:args.length≤25) (h:Run Fh K [.code Nh] (BK args) E σ):AK Tryz.prog 30 args σ K:=
 AX (cx:=Fh) (code:=Tryz.f30.body.getD .skip) Jh (by kernel_rfl) Tryz.ntmps30 hl (AY Fh _ (B0 Nh) _ [] (by kernel_rfl)) h
def Te:C:=(.seq (.reg [Qo 4 (.box (.t 0) false),
 Qo 6 (.mv (.c (.d (.int .i64 0))))] [1,2,3,4])
 (.seq (.seq (.reg [Qo 7 (.fld (.t 4) 0),
 Qo 8 (.ldl (.t 7) none),
 Qo 9 (.bin .eql (.t 8) (.c (.d (.int .i64 4)))),
 Qm 10 9,
 ⟨some 11,.mv (.t 1),some (10,true)⟩,
 ⟨some 12,.fld (.t 4) 1,some (10,true)⟩,
 ⟨some 13,.ldl (.t 12) none,some (10,true)⟩,
 ⟨some 14,.call 32 [(.t 11),(.t 13)],some (10,true)⟩,
 ⟨some 15,.un .not (.t 14),some (10,true)⟩,
 Qo 16 (.pick (.t 10) (.t 15) (.c (.d (.bool false))))] [2,3,4,16])
 (.cond (.t 16) (.Sm (.one (Qo 18 (.ld (.t 3) (some 2)))
 (.one (Qo 19 (.fld (.t 4) 1))
 (.one (Qo 20 (.ldl (.t 19) none))
 (.alt (Qo 17 (.ld (.t 2) none))
 (.one (Qo 21 (.call 33 [(.t 18),(.t 20)]))
 (.one (Qo 22 (.ix (.t 17) (.t 21) 1))
 (.one ⟨none,.st (.t 22) (.c (.d (.bool true))) 1,none⟩
 .done)))
 (.alt (Qo 21 (.call 33 [(.t 18),(.t 20)]))
 (.one (Qo 17 (.ld (.t 2) none))
 (.one (Qo 22 (.ix (.t 17) (.t 21) 1))
 (.one ⟨none,.st (.t 22) (.c (.d (.bool true))) 1,none⟩
 .done)))
 .done))))) [])
 .skip))
 (.seq (.reg [Qo 6 (.mv (.c (.d (.int .i64 0))))] [6])
 .ret)))
def UJ:List (List Nat×PT):=[([1,2,3,4],.done),([2,3,4,16],.done),([],(.one 1 (.one 2 (.one 3 (.alt 0 (.one 4 (.one 5 (.one 6 .done))) (.alt 4 (.one 0 (.one 5 (.one 6 .done))) .done)))))),([6],.done)]
noncomputable def Fg:Cx:=⟨Tryz.prog,31,Tryz.f31,23,[300008,300013,300020],[],[.t 6]⟩
theorem HS:Good Fg:=⟨Tryz.func31,by kernel_rfl⟩
theorem Sr:Fg.rs=[.t 6]:=rfl
theorem Tl (hl:args.length≤23) (h:Run Fg K [.code Te] (BK args) E σ):AK Tryz.prog 31 args σ K:=
 AX (cx:=Fg) (code:=Tryz.f31.body.getD .skip) HS (by kernel_rfl) Tryz.ntmps31 hl (AY Fg _ UJ _ [] (by kernel_rfl)) h
def Hk:C:=(.seq (.seq (.reg [Qm 5 0,
 Qo 6 (.Zl true (.t 5))] [0,1,6])
 (.cond (.t 6) .skip
 (.exit 0)))
 (.seq (.block 1 (.seq (.reg [Qm 11 0,
 Qo 12 (.nck (.t 11)),
 Qo 13 (.fld (.t 12) 0),
 Qo 14 (.ld (.t 13) none),
 Qm 15 1,
 Qo 16 (.bin .eql (.t 14) (.t 15))] [0,1,16])
 (.cond (.t 16) (.seq (.reg [Qo 4 (.mv (.c (.d (.bool true))))] [4])
 .ret)
 .skip)))
 (.reg [Qm 7 0,
 Qo 8 (.nck (.t 7)),
 Qo 9 (.fld (.t 8) 1),
 Qo 10 (.ld (.t 9) none),
 Qm 0 10] [0,1])))
def Jv:C:=(.seq (.reg [Qo 4 (.mv (.c (.d (.bool false))))] [0,1])
 (.seq (.block 0 (.loop Hk))
 (.seq (.reg [Qo 4 (.mv (.c (.d (.bool false))))] [4])
 .ret)))
noncomputable def DK:Cx:=⟨Tryz.prog,32,Tryz.f32,17,[],[],[.t 4]⟩
theorem Gq:Good DK:=⟨Tryz.func32,by kernel_rfl⟩
theorem PC:DK.rs=[.t 4]:=rfl
theorem Pk (hl:args.length≤17) (h:Run DK K [.code Jv] (BK args) E σ):AK Tryz.prog 32 args σ K:=
 AX (cx:=DK) (code:=Tryz.f32.body.getD .skip) Gq (by kernel_rfl) Tryz.ntmps32 hl (AY DK _ (B0 Jv) _ [] (by kernel_rfl)) h
def MO:C:=(.seq (.reg [Qo 2 (.box (.t 0) false),
 Qo 3 (.box (.t 1) true),
 Qo 4 (.mv (.c (.d (.int .i64 0))))] [2,3])
 (.seq (.reg [Qo 5 (.fld (.t 2) 1),
 Qo 6 (.ldl (.t 5) none),
 Qo 7 (.mkf 66 [] [(.t 3)]),
 Qo 8 (.call 65 [(.t 6),(.t 7)]),
 Qm 4 8] [4])
 .ret))
noncomputable def FO:Cx:=⟨Tryz.prog,33,Tryz.f33,9,[3,300006],[],[.t 4]⟩
theorem MY:Good FO:=⟨Tryz.func33,by kernel_rfl⟩
theorem Rt:FO.rs=[.t 4]:=rfl
theorem S2 (hl:args.length≤9) (h:Run FO K [.code MO] (BK args) E σ):AK Tryz.prog 33 args σ K:=
 AX (cx:=FO) (code:=Tryz.f33.body.getD .skip) MY (by kernel_rfl) Tryz.ntmps33 hl (AY FO _ (B0 MO) _ [] (by kernel_rfl)) h
def IW:C:=(.seq (.reg [Qo 20 (.bin .lss (.t 19) (.t 18))] [1,3,4,18,19,20])
 (.seq (.cond (.t 20) .skip
 (.exit 0))
 (.seq (.block 1 (.seq (.reg [Qm 21 19,
 Qo 5 (.ex (.alt 3 [(.d (.int .i64 0))]) []),
 ⟨none,.st (.t 5) (.t 21) 1,none⟩] [1,3,4,5,18,19])
 (.seq (.Sm (.one (Qo 24 (.ld (.t 3) none))
 (.alt (Qo 22 (.ld (.t 4) none))
 (.alt (Qo 23 (.ld (.t 5) none))
 (.one (Qo 25 (.msl 4 1 1 [(.d (.bool false))] (.t 24) (.t 24)))
 (.one (Qo 26 (.ix (.t 22) (.t 23) 1))
 (.one ⟨none,.st (.t 26) (.t 25) 1,none⟩
 .done)))
 (.alt (Qo 25 (.msl 4 1 1 [(.d (.bool false))] (.t 24) (.t 24)))
 (.one (Qo 23 (.ld (.t 5) none))
 (.one (Qo 26 (.ix (.t 22) (.t 23) 1))
 (.one ⟨none,.st (.t 26) (.t 25) 1,none⟩
 .done)))
 .done))
 (.alt (Qo 23 (.ld (.t 5) none))
 (.alt (Qo 22 (.ld (.t 4) none))
 (.one (Qo 25 (.msl 4 1 1 [(.d (.bool false))] (.t 24) (.t 24)))
 (.one (Qo 26 (.ix (.t 22) (.t 23) 1))
 (.one ⟨none,.st (.t 26) (.t 25) 1,none⟩
 .done)))
 (.alt (Qo 25 (.msl 4 1 1 [(.d (.bool false))] (.t 24) (.t 24)))
 (.one (Qo 22 (.ld (.t 4) none))
 (.one (Qo 26 (.ix (.t 22) (.t 23) 1))
 (.one ⟨none,.st (.t 26) (.t 25) 1,none⟩
 .done)))
 .done))
 (.alt (Qo 25 (.msl 4 1 1 [(.d (.bool false))] (.t 24) (.t 24)))
 (.one (Qo 22 (.ld (.t 4) none))
 (.one (Qo 23 (.ld (.t 5) none))
 (.one (Qo 26 (.ix (.t 22) (.t 23) 1))
 (.one ⟨none,.st (.t 26) (.t 25) 1,none⟩
 .done))))
 .done)))) [1,3,4,5,18,19])
 (.seq (.reg [Qo 6 (.ex (.alt 102 [.IS]) [])] [1,3,4,5,6,18,19])
 (.seq (.reg [Qo 27 (.mkf 69 [] [(.t 4),(.t 5),(.t 1),(.t 6)]),
 ⟨none,.st (.t 6) (.t 27) 1,none⟩] [1,3,4,5,6,18,19])
 (.reg [Qo 28 (.ld (.t 6) none),
 Qo 29 (.ld (.t 5) none),
 Qo 30 (.FY (.t 28) [(.t 29)])] [1,3,4,18,19]))))))
 (.reg [Qo 31 (.bin .add (.t 19) (.c (.d (.int .i64 1)))),
 Qm 19 31] [1,3,4,18,19]))))
def IX:C:=(.seq (.reg [Qo 52 (.bin .lss (.t 51) (.t 50))] [3,4,7,8,9,10,11,50,51,52])
 (.seq (.cond (.t 52) .skip
 (.exit 4))
 (.seq (.block 5 (.seq (.reg [Qm 53 51,
 Qm 12 53] [3,4,7,8,9,10,11,12,50,51])
 (.seq (.reg [Qo 54 (.ld (.t 4) none),
 Qm 55 10,
 Qo 56 (.ix (.t 54) (.t 55) 1),
 Qo 57 (.ld (.t 56) none),
 Qm 58 12,
 Qo 59 (.ix (.t 57) (.t 58) 1),
 Qo 60 (.ld (.t 59) none),
 Qm 61 60,
 ⟨some 62,.ld (.t 4) none,some (61,true)⟩,
 ⟨some 63,.mv (.t 12),some (61,true)⟩,
 ⟨some 64,.ix (.t 62) (.t 63) 1,some (61,true)⟩,
 ⟨some 65,.ld (.t 64) none,some (61,true)⟩,
 ⟨some 66,.mv (.t 10),some (61,true)⟩,
 ⟨some 67,.ix (.t 65) (.t 66) 1,some (61,true)⟩,
 ⟨some 68,.ld (.t 67) none,some (61,true)⟩,
 Qo 69 (.pick (.t 61) (.t 68) (.c (.d (.bool false))))] [3,4,7,8,9,10,11,12,50,51,69])
 (.cond (.t 69) (.seq (.reg [Qm 70 11,
 Qm 71 12,
 Qo 72 (.bsl 1 1 [(.d (.int .i64 0))] [(0,1,(.t 71))]),
 Qo 73 (.app 3 1 8 (.t 70) (.t 72)),
 Qm 11 73] [3,4,7,8,9,10,11,12,50,51])
 (.reg [Qo 74 (.ld (.t 7) none),
 Qm 75 12,
 Qo 76 (.ix (.t 74) (.t 75) 1),
 ⟨none,.st (.t 76) (.c (.d (.bool true))) 1,none⟩] [3,4,7,8,9,10,11,50,51]))
 .skip))))
 (.reg [Qo 77 (.bin .add (.t 51) (.c (.d (.int .i64 1)))),
 Qm 51 77] [3,4,7,8,9,10,11,50,51]))))
def IY:C:=(.seq (.seq (.reg [Qm 35 10,
 Qo 36 (.ld (.t 3) none),
 Qo 37 (.bin .lss (.t 35) (.t 36))] [3,4,7,8,9,10,37])
 (.cond (.t 37) .skip
 (.exit 2)))
 (.seq (.block 3 (.seq (.seq (.reg [Qo 40 (.ld (.t 7) none),
 Qm 41 10,
 Qo 42 (.ix (.t 40) (.t 41) 1),
 Qo 43 (.ld (.t 42) none),
 Qm 44 43,
 ⟨some 45,.mv (.t 8),some (44,false)⟩,
 ⟨some 46,.mv (.t 10),some (44,false)⟩,
 ⟨some 47,.FY (.t 45) [(.t 46)],some (44,false)⟩,
 ⟨some 48,.un .not (.t 47),some (44,false)⟩,
 Qo 49 (.pick (.t 44) (.c (.d (.bool true))) (.t 48))] [3,4,7,8,9,10,49])
 (.cond (.t 49) (.exit 3)
 .skip))
 (.seq (.reg [Qo 11 (.mv (.c .AU))] [3,4,7,8,9,10,11])
 (.seq (.seq (.reg [Qo 50 (.ld (.t 3) none),
 Qo 51 (.mv (.c (.d (.int .i64 0))))] [3,4,7,8,9,10,11,50,51])
 (.block 4 (.loop IX)))
 (.seq (.reg [Qm 78 9,
 Qm 79 11,
 Qo 80 (.bsl 1 1 [.AU] [(0,1,(.t 79))]),
 Qo 81 (.app 35 1 24 (.t 78) (.t 80)),
 Qm 9 81] [3,4,7,8,9])
 (.reg [Qo 10 (.mv (.c (.d (.int .i64 (-1)))))] [3,4,7,8,9,10]))))))
 (.reg [Qm 38 10,
 Qo 39 (.bin .add (.t 38) (.c (.d (.int .i64 1)))),
 Qm 10 39] [3,4,7,8,9,10])))
def Qc:C:=(.seq (.reg [Qo 1 (.box (.t 0) true),
 Qo 2 (.mv (.c .AU))] [1])
 (.seq (.reg [Qo 13 (.ld (.t 1) none),
 Qo 14 (.len (.t 13)),
 Qo 3 (.ex (.alt 3 [(.d (.int .i64 0))]) []),
 ⟨none,.st (.t 3) (.t 14) 1,none⟩] [1,3])
 (.seq (.reg [Qo 15 (.ld (.t 3) none),
 Qo 16 (.msl 78 1 24 [.AU] (.t 15) (.t 15)),
 Qo 4 (.ex (.alt 141 [.AU]) []),
 ⟨none,.st (.t 4) (.t 16) 1,none⟩] [1,3,4])
 (.seq (.seq (.reg [Qo 17 (.ld (.t 4) none),
 Qo 18 (.len (.t 17)),
 Qo 19 (.mv (.c (.d (.int .i64 0))))] [1,3,4,18,19])
 (.block 0 (.loop IW)))
 (.seq (.reg [Qo 32 (.ld (.t 3) none),
 Qo 33 (.msl 4 1 1 [(.d (.bool false))] (.t 32) (.t 32)),
 Qo 7 (.ex (.alt 78 [.AU]) []),
 ⟨none,.st (.t 7) (.t 33) 1,none⟩] [3,4,7])
 (.seq (.reg [Qo 34 (.mkf 70 [] [(.t 3),(.t 4),(.t 7)]),
 Qm 8 34] [3,4,7,8])
 (.seq (.reg [Qo 9 (.mv (.c .AU))] [3,4,7,8,9])
 (.seq (.seq (.reg [Qo 10 (.mv (.c (.d (.int .i64 0))))] [3,4,7,8,9,10])
 (.block 2 (.loop IY)))
 (.seq (.reg [Qm 82 9,
 Qm 2 82] [2])
 .ret)))))))))
def RA:List (List Nat×PT):=[([1],.done),([1,3],.done),([1,3,4],.done),([1,3,4,18,19],.done),([1,3,4,18,19,20],.done),([1,3,4,5,18,19],.done),([1,3,4,5,18,19],(.one 2 (.alt 0 (.alt 1 (.one 3 (.one 4 (.one 5 .done))) (.alt 3 (.one 1 (.one 4 (.one 5 .done))) .done)) (.alt 1 (.alt 0 (.one 3 (.one 4 (.one 5 .done))) (.alt 3 (.one 0 (.one 4 (.one 5 .done))) .done)) (.alt 3 (.one 0 (.one 1 (.one 4 (.one 5 .done)))) .done))))),([1,3,4,5,6,18,19],.done),([1,3,4,5,6,18,19],.done),([1,3,4,18,19],.done),([1,3,4,18,19],.done),([3,4,7],.done),([3,4,7,8],.done),([3,4,7,8,9],.done),([3,4,7,8,9,10],.done),([3,4,7,8,9,10,37],.done),([3,4,7,8,9,10,49],.done),([3,4,7,8,9,10,11],.done),([3,4,7,8,9,10,11,50,51],.done),([3,4,7,8,9,10,11,50,51,52],.done),([3,4,7,8,9,10,11,12,50,51],.done),([3,4,7,8,9,10,11,12,50,51,69],.done),([3,4,7,8,9,10,11,12,50,51],.done),([3,4,7,8,9,10,11,50,51],.done),([3,4,7,8,9,10,11,50,51],.done),([3,4,7,8,9],.done),([3,4,7,8,9,10],.done),([3,4,7,8,9,10],.done),([2],.done)]
noncomputable def B4:Cx:=⟨Tryz.prog,35,Tryz.f35,83,[1,3,4,5,6,7],[],[.t 2]⟩
theorem Kj:Good B4:=⟨Tryz.func35,by kernel_rfl⟩
theorem Pn:B4.rs=[.t 2]:=rfl
theorem Qi (hl:args.length≤83) (h:Run B4 K [.code Qc] (BK args) E σ):AK Tryz.prog 35 args σ K:=
 AX (cx:=B4) (code:=Tryz.f35.body.getD .skip) Kj (by kernel_rfl) Tryz.ntmps35 hl (AY B4 _ RA _ [] (by kernel_rfl)) h
def Tf:C:=(.seq (.reg [Qo 18 (.bin .lss (.t 17) (.t 16))] [3,4,15,16,17,18])
 (.seq (.cond (.t 18) .skip
 (.exit 0))
 (.seq (.block 1 (.seq (.reg [Qm 19 17,
 Qo 20 (.ix (.t 15) (.t 17) 3),
 Qo 21 (.ld (.t 20) (some 3)),
 Qo 6 (.al [(.d (.str [])),.AU,.AU] false),
 Qm 5 19,
 ⟨none,.st (.t 6) (.t 21) 3,none⟩] [3,4,5,6,15,16,17])
 (.seq (.reg [Qm 22 4,
 Qo 23 (.ldl (.t 6) (some 3)),
 Qo 24 (.call 72 [(.t 22),(.t 23)]),
 Qm 7 24] [3,4,5,7,15,16,17])
 (.seq (.reg [Qm 25 7,
 Qo 26 (.bin .neq (.t 25) (.c (.d (.int .i64 0))))] [3,4,5,7,15,16,17,26])
 (.cond (.t 26) (.seq (.reg [Qm 27 7,
 Qm 28 5,
 Qo 29 (.bld [(.d (.int .i64 0)),(.d (.int .i64 0)),(.d (.int .i64 0))] [(0,1,(.t 27)),(1,1,(.c (.d (.int .i64 (-1))))),(2,1,(.t 28))]),
 Qo 2 (.mv (.c .AU)),
 ⟨none,.st (.t 3) (.t 29) 3,none⟩] [2,3])
 .ret)
 .skip)))))
 (.reg [Qo 30 (.bin .add (.t 17) (.c (.d (.int .i64 1)))),
 Qm 17 30] [3,4,15,16,17]))))
def R3:C:=(.seq (.reg [Qo 1 (.box (.t 0) false),
 Qo 2 (.mv (.c .AU)),
 Qo 3 (.al [(.d (.int .i64 0)),(.d (.int .i64 0)),(.d (.int .i64 0))] false)] [1,3])
 (.seq (.seq (.reg [Qo 8 (.ldl (.t 1) (some 2)),
 Qo 9 (.call 71 [(.t 8)]),
 Qo 10 (.un .not (.t 9))] [1,3,10])
 (.cond (.t 10) (.seq (.reg [Qo 11 (.bld [(.d (.int .i64 0)),(.d (.int .i64 0)),(.d (.int .i64 0))] [(0,1,(.c (.d (.int .i64 1)))),(1,1,(.c (.d (.int .i64 (-1)))))]),
 Qo 2 (.mv (.c .AU)),
 ⟨none,.st (.t 3) (.t 11) 3,none⟩] [2,3])
 .ret)
 .skip))
 (.seq (.reg [Qo 12 (.bld [.AU,(.d (.str [])),.AU,.AU] []),
 Qo 13 (.box (.t 12) true),
 Qm 4 13] [1,3,4])
 (.seq (.seq (.reg [Qo 14 (.fld (.t 1) 0),
 Qo 15 (.ldl (.t 14) none),
 Qo 16 (.len (.t 15)),
 Qo 17 (.mv (.c (.d (.int .i64 0))))] [3,4,15,16,17])
 (.block 0 (.loop Tf)))
 (.seq (.reg [Qm 31 4,
 Qo 32 (.nck (.t 31)),
 Qo 33 (.fld (.t 32) 0),
 Qo 34 (.ld (.t 33) none),
 Qo 35 (.bld [(.d (.int .i64 0)),(.d (.int .i64 0)),(.d (.int .i64 0))] []),
 Qm 2 34,
 ⟨none,.st (.t 3) (.t 35) 3,none⟩] [2,3])
 .ret)))))
noncomputable def IL:Cx:=⟨Tryz.prog,44,Tryz.f44,36,[13,300008,300015,300023],[],[.t 2,.c 3 (some 3)]⟩
theorem Hs:Good IL:=⟨Tryz.func44,by kernel_rfl⟩
theorem QZ:IL.rs=[.t 2,.c 3 (some 3)]:=rfl
theorem YN (hl:args.length≤36) (h:Run IL K [.code R3] (BK args) E σ):AK Tryz.prog 44 args σ K:=
 AX (cx:=IL) (code:=Tryz.f44.body.getD .skip) Hs (by kernel_rfl) Tryz.ntmps44 hl (AY IL _ (B0 R3) _ [] (by kernel_rfl)) h
def Ph:C:=(.seq (.reg [Qo 8 (.bin .lss (.t 7) (.t 6))] [0,5,6,7,8])
 (.seq (.cond (.t 8) .skip
 (.exit 0))
 (.seq (.block 1 (.seq (.reg [Qm 9 7,
 Qo 10 (.ix (.t 5) (.t 7) 1),
 Qo 11 (.ld (.t 10) none),
 Qm 3 9,
 Qm 4 11] [0,3,4,5,6,7])
 (.seq (.reg [Qm 12 4,
 Qo 13 (.bin .neq (.t 12) (.c (.d (.str [])))),
 Qm 14 13,
 ⟨some 15,.mv (.t 0),some (14,true)⟩,
 ⟨some 16,.mv (.t 3),some (14,true)⟩,
 ⟨some 17,.sls (.t 15) none (some (.t 16)) none 1,some (14,true)⟩,
 ⟨some 18,.mv (.t 4),some (14,true)⟩,
 ⟨some 19,.call 73 [(.t 17),(.t 18)],some (14,true)⟩,
 Qo 20 (.pick (.t 14) (.t 19) (.c (.d (.bool false))))] [0,5,6,7,20])
 (.cond (.t 20) (.seq (.reg [Qo 2 (.mv (.c (.d (.bool true))))] [2])
 .ret)
 .skip))))
 (.reg [Qo 21 (.bin .add (.t 7) (.c (.d (.int .i64 1)))),
 Qm 7 21] [0,5,6,7]))))
def MP:C:=(.seq (.reg [Qo 2 (.mv (.c (.d (.bool false))))] [0])
 (.seq (.seq (.reg [Qm 5 0,
 Qo 6 (.len (.t 5)),
 Qo 7 (.mv (.c (.d (.int .i64 0))))] [0,5,6,7])
 (.block 0 (.loop Ph)))
 (.seq (.reg [Qo 2 (.mv (.c (.d (.bool false))))] [2])
 .ret)))
noncomputable def FP:Cx:=⟨Tryz.prog,45,Tryz.f45,22,[],[],[.t 2]⟩
theorem Ij:Good FP:=⟨Tryz.func45,by kernel_rfl⟩
theorem Ru:FP.rs=[.t 2]:=rfl
theorem S3 (hl:args.length≤22) (h:Run FP K [.code MP] (BK args) E σ):AK Tryz.prog 45 args σ K:=
 AX (cx:=FP) (code:=Tryz.f45.body.getD .skip) Ij (by kernel_rfl) Tryz.ntmps45 hl (AY FP _ (B0 MP) _ [] (by kernel_rfl)) h
def IV:C:=(.seq (.reg [Qo 3 (.box (.t 0) false),
 Qo 4 (.box (.t 1) false),
 Qo 6 (.mv (.c (.d (.int .i64 0))))] [2,3,4])
 (.seq (.seq (.reg [Qo 12 (.fld (.t 4) 0),
 Qo 13 (.ldl (.t 12) none)] [2,3,4,13])
 (.block 0 (.seq (.reg [Qo 15 (.bin .eql (.t 13) (.c (.d (.int .i64 4)))),
 Qm 14 15] [2,3,4,13,14])
 (.cond (.t 14) (.seq (.reg [Qm 16 2,
 Qo 17 (.fld (.t 4) 1),
 Qo 18 (.ldl (.t 17) none),
 Qo 19 (.call 32 [(.t 16),(.t 18)]),
 Qo 20 (.un .not (.t 19)),
 Qm 21 20,
 ⟨some 22,.fld (.t 3) 0,some (21,true)⟩,
 ⟨some 23,.ldl (.t 22) (some 2),some (21,true)⟩,
 ⟨some 24,.fld (.t 4) 1,some (21,true)⟩,
 ⟨some 25,.ldl (.t 24) none,some (21,true)⟩,
 ⟨some 26,.call 33 [(.t 23),(.t 25)],some (21,true)⟩,
 ⟨some 27,.bin .lss (.t 26) (.c (.d (.int .i64 0))),some (21,true)⟩,
 Qo 28 (.pick (.t 21) (.t 27) (.c (.d (.bool false))))] [28])
 (.cond (.t 28) (.seq (.reg [Qo 6 (.mv (.c (.d (.int .i64 3))))] [6])
 .ret)
 .skip))
 (.seq (.reg [Qo 30 (.bin .eql (.t 13) (.c (.d (.int .i64 6)))),
 Qm 29 30] [2,3,4,13,29])
 (.cond (.t 29) (.seq (.reg [Qo 32 (.fld (.t 3) 2),
 Qo 33 (.ldl (.t 32) none),
 Qo 34 (.fld (.t 4) 1),
 Qo 35 (.ldl (.t 34) none),
 Qo 36 (.call 74 [(.t 33),(.t 35)]),
 Qm 31 36,
 Qo 37 (.ext (.t 31) 0),
 Qo 38 (.ext (.t 31) 1),
 Qo 39 (.ext (.t 31) 2),
 Qm 7 37,
 Qm 8 38,
 Qm 9 39] [3,4,7,8,9])
 (.seq (.seq (.reg [Qm 40 9,
 Qo 41 (.un .not (.t 40))] [3,4,7,8,41])
 (.cond (.t 41) (.seq (.reg [Qo 6 (.mv (.c (.d (.int .i64 3))))] [6])
 .ret)
 .skip))
 (.seq (.reg [Qo 42 (.fld (.t 4) 4),
 Qo 43 (.ldl (.t 42) none),
 Qo 44 (.len (.t 43)),
 Qo 45 (.fld (.t 3) 2),
 Qo 46 (.ldl (.t 45) none),
 Qm 47 7,
 Qo 48 (.ix (.t 46) (.t 47) 3),
 Qo 49 (.fld (.t 48) 2),
 Qo 50 (.ld (.t 49) none),
 Qm 51 8,
 Qo 52 (.ix (.t 50) (.t 51) 2),
 Qo 53 (.fld (.t 52) 1),
 Qo 54 (.ld (.t 53) none),
 Qo 55 (.len (.t 54)),
 Qo 56 (.bin .neq (.t 44) (.t 55))] [56])
 (.cond (.t 56) (.seq (.reg [Qo 6 (.mv (.c (.d (.int .i64 5))))] [6])
 .ret)
 .skip))))
 (.seq (.seq (.reg [Qo 58 (.bin .eql (.t 13) (.c (.d (.int .i64 8)))),
 Qm 57 58] [2,3,4,13,57])
 (.cond (.t 57) .skip
 (.reg [Qo 59 (.bin .eql (.t 13) (.c (.d (.int .i64 11)))),
 Qm 57 59] [2,3,4,13,57])))
 (.cond (.t 57) (.seq (.reg [Qo 60 (.fld (.t 4) 3),
 Qo 61 (.ldl (.t 60) none),
 Qo 62 (.call 45 [(.t 61)])] [62])
 (.cond (.t 62) (.seq (.reg [Qo 6 (.mv (.c (.d (.int .i64 4))))] [6])
 .ret)
 .skip))
 (.seq (.reg [Qo 64 (.bin .eql (.t 13) (.c (.d (.int .i64 10)))),
 Qm 63 64] [2,3,4,13,63])
 (.cond (.t 63) (.seq (.reg [Qo 65 (.ldl (.t 3) (some 3)),
 Qo 66 (.fld (.t 4) 5),
 Qo 67 (.ldl (.t 66) none),
 Qo 68 (.call 75 [(.t 65),(.t 67)]),
 Qm 6 68] [6])
 .ret)
 (.seq (.reg [Qo 70 (.bin .eql (.t 13) (.c (.d (.int .i64 12)))),
 Qm 69 70] [2,3,4,69])
 (.cond (.t 69) (.seq (.reg [Qo 71 (.fld (.t 4) 4),
 Qo 72 (.ldl (.t 71) none),
 Qo 73 (.ix (.t 72) (.c (.d (.int .i64 0))) 6),
 Qo 74 (.ld (.t 73) (some 6)),
 Qo 10 (.al [(.d (.int .i64 0)),(.d (.str [])),(.d (.int .i64 0)),.AU,.AU,.AU] false),
 ⟨none,.st (.t 10) (.t 74) 6,none⟩] [2,3,4,10])
 (.seq (.reg [Qo 75 (.fld (.t 10) 0),
 Qo 76 (.ldl (.t 75) none),
 Qo 77 (.bin .eql (.t 76) (.c (.d (.int .i64 4)))),
 Qm 78 77,
 ⟨some 79,.mv (.t 2),some (78,true)⟩,
 ⟨some 80,.fld (.t 10) 1,some (78,true)⟩,
 ⟨some 81,.ldl (.t 80) none,some (78,true)⟩,
 ⟨some 82,.call 32 [(.t 79),(.t 81)],some (78,true)⟩,
 ⟨some 83,.un .not (.t 82),some (78,true)⟩,
 Qo 84 (.pick (.t 78) (.t 83) (.c (.d (.bool false))))] [3,4,10,84])
 (.cond (.t 84) (.seq (.reg [Qo 85 (.fld (.t 3) 0),
 Qo 86 (.ldl (.t 85) (some 2)),
 Qo 87 (.fld (.t 10) 1),
 Qo 88 (.ldl (.t 87) none),
 Qo 89 (.call 33 [(.t 86),(.t 88)]),
 Qm 11 89] [3,4,11])
 (.seq (.reg [Qm 90 11,
 Qo 91 (.bin .geq (.t 90) (.c (.d (.int .i64 0)))),
 Qm 92 91,
 ⟨some 93,.fld (.t 4) 4,some (92,true)⟩,
 ⟨some 94,.ldl (.t 93) none,some (92,true)⟩,
 ⟨some 95,.len (.t 94),some (92,true)⟩,
 ⟨some 96,.bin .sub (.t 95) (.c (.d (.int .i64 1))),some (92,true)⟩,
 ⟨some 97,.fld (.t 3) 0,some (92,true)⟩,
 ⟨some 98,.fld (.t 97) 1,some (92,true)⟩,
 ⟨some 99,.ldl (.t 98) none,some (92,true)⟩,
 ⟨some 100,.mv (.t 11),some (92,true)⟩,
 ⟨some 101,.ix (.t 99) (.t 100) 8,some (92,true)⟩,
 ⟨some 102,.fld (.t 101) 1,some (92,true)⟩,
 ⟨some 103,.ld (.t 102) none,some (92,true)⟩,
 ⟨some 104,.len (.t 103),some (92,true)⟩,
 ⟨some 105,.bin .neq (.t 96) (.t 104),some (92,true)⟩,
 Qo 106 (.pick (.t 92) (.t 105) (.c (.d (.bool false))))] [106])
 (.cond (.t 106) (.seq (.reg [Qo 6 (.mv (.c (.d (.int .i64 5))))] [6])
 .ret)
 .skip)))
 .skip)))
 .skip))))))))))))
 (.seq (.reg [Qo 6 (.mv (.c (.d (.int .i64 0))))] [6])
 .ret)))
noncomputable def DY:Cx:=⟨Tryz.prog,46,Tryz.f46,107,[300013,300018,300023,300025,300033,300035,300043,300046,300061,300065,300067,300072,300076,300081,300086,300088,300094,300099],[],[.t 6]⟩
theorem Ap:Good DY:=⟨Tryz.func46,by kernel_rfl⟩
theorem NW:DY.rs=[.t 6]:=rfl
theorem Ny (hl:args.length≤107) (h:Run DY K [.code IV] (BK args) E σ):AK Tryz.prog 46 args σ K:=
 AX (cx:=DY) (code:=Tryz.f46.body.getD .skip) Ap (by kernel_rfl) Tryz.ntmps46 hl (AY DY _ (B0 IV) _ [] (by kernel_rfl)) h
def Mx:C:=(.seq (.reg [Qo 29 (.bin .lss (.t 28) (.t 27))] [0,2,4,26,27,28,29])
 (.seq (.cond (.t 29) .skip
 (.exit 0))
 (.seq (.block 1 (.seq (.reg [Qm 30 28,
 Qo 31 (.ix (.t 26) (.t 28) 6),
 Qo 32 (.ld (.t 31) (some 6)),
 Qo 9 (.al [(.d (.int .i64 0)),(.d (.str [])),(.d (.int .i64 0)),.AU,.AU,.AU] false),
 Qm 8 30,
 ⟨none,.st (.t 9) (.t 32) 6,none⟩] [0,2,4,8,9,26,27,28])
 (.seq (.reg [Qm 33 2,
 Qm 10 33] [0,2,4,8,9,10,26,27,28])
 (.seq (.block 2 (.seq (.seq (.reg [Qo 35 (.fld (.t 4) 0),
 Qo 36 (.ldl (.t 35) none),
 Qo 37 (.bin .eql (.t 36) (.c (.d (.int .i64 11)))),
 Qm 34 37] [0,2,4,8,9,10,26,27,28,34])
 (.cond (.t 34) .skip
 (.reg [Qo 38 (.fld (.t 4) 0),
 Qo 39 (.ldl (.t 38) none),
 Qo 40 (.bin .eql (.t 39) (.c (.d (.int .i64 8)))),
 Qm 41 40,
 ⟨some 42,.mv (.t 8),some (41,true)⟩,
 ⟨some 43,.bin .eql (.t 42) (.c (.d (.int .i64 1))),some (41,true)⟩,
 Qo 44 (.pick (.t 41) (.t 43) (.c (.d (.bool false)))),
 Qm 34 44] [0,2,4,8,9,10,26,27,28,34])))
 (.cond (.t 34) (.reg [Qm 45 2,
 Qo 46 (.fld (.t 4) 3),
 Qo 47 (.ldl (.t 46) none),
 Qo 48 (.call 64 [(.t 45),(.t 47)]),
 Qm 10 48] [0,2,4,9,10,26,27,28])
 (.seq (.reg [Qo 50 (.fld (.t 4) 0),
 Qo 51 (.ldl (.t 50) none),
 Qo 52 (.bin .eql (.t 51) (.c (.d (.int .i64 7)))),
 Qm 53 52,
 ⟨some 54,.fld (.t 4) 0,some (53,false)⟩,
 ⟨some 55,.ldl (.t 54) none,some (53,false)⟩,
 ⟨some 56,.bin .eql (.t 55) (.c (.d (.int .i64 17))),some (53,false)⟩,
 Qo 57 (.pick (.t 53) (.c (.d (.bool true))) (.t 56)),
 Qm 58 57,
 ⟨some 59,.mv (.t 8),some (58,true)⟩,
 ⟨some 60,.bin .eql (.t 59) (.c (.d (.int .i64 1))),some (58,true)⟩,
 Qo 61 (.pick (.t 58) (.t 60) (.c (.d (.bool false)))),
 Qm 49 61] [0,2,4,9,10,26,27,28,49])
 (.cond (.t 49) (.reg [Qm 62 2,
 Qo 63 (.fld (.t 4) 1),
 Qo 64 (.ldl (.t 63) none),
 Qo 65 (.bsl 1 1 [(.d (.str []))] [(0,1,(.t 64))]),
 Qo 66 (.call 64 [(.t 62),(.t 65)]),
 Qm 10 66] [0,2,4,9,10,26,27,28])
 .skip)))))
 (.seq (.reg [Qm 67 0,
 Qo 68 (.nck (.t 67)),
 Qo 69 (.fld (.t 68) 0),
 Qo 70 (.ld (.t 69) none),
 Qo 71 (.bin .add (.t 70) (.c (.d (.int .i64 1)))),
 Qo 72 (.nck (.t 67)),
 Qo 73 (.fld (.t 72) 0),
 ⟨none,.st (.t 73) (.t 71) 1,none⟩] [0,2,4,9,10,26,27,28])
 (.seq (.reg [Qm 74 0,
 Qo 75 (.ldl (.t 9) (some 6)),
 Qm 76 10,
 Qo 77 (.call 63 [(.t 74),(.t 75),(.t 76)]),
 Qm 11 77] [0,2,4,11,26,27,28])
 (.seq (.reg [Qm 78 11,
 Qo 79 (.bin .neq (.t 78) (.c (.d (.int .i64 0))))] [0,2,4,11,26,27,28,79])
 (.cond (.t 79) (.seq (.reg [Qm 80 11,
 Qm 6 80] [6])
 .ret)
 .skip))))))))
 (.reg [Qo 81 (.bin .add (.t 28) (.c (.d (.int .i64 1)))),
 Qm 28 81] [0,2,4,26,27,28]))))
def My:C:=(.seq (.reg [Qo 86 (.bin .lss (.t 85) (.t 84))] [0,2,83,84,85,86])
 (.seq (.cond (.t 86) .skip
 (.exit 3))
 (.seq (.block 4 (.seq (.reg [Qo 87 (.ix (.t 83) (.t 85) 8),
 Qo 88 (.ld (.t 87) (some 8)),
 Qo 13 (.al [(.d (.str [])),.AU,(.d (.int .i64 0)),(.d (.str [])),(.d (.int .i64 0)),.AU,.AU,.AU] false),
 ⟨none,.st (.t 13) (.t 88) 8,none⟩] [0,2,13,83,84,85])
 (.seq (.reg [Qm 89 0,
 Qo 90 (.nck (.t 89)),
 Qo 91 (.fld (.t 90) 0),
 Qo 92 (.ld (.t 91) none),
 Qo 93 (.bin .add (.t 92) (.c (.d (.int .i64 1)))),
 Qo 94 (.nck (.t 89)),
 Qo 95 (.fld (.t 94) 0),
 ⟨none,.st (.t 95) (.t 93) 1,none⟩] [0,2,13,83,84,85])
 (.seq (.reg [Qm 96 0,
 Qo 97 (.fld (.t 13) 2),
 Qo 98 (.ldl (.t 97) (some 6)),
 Qm 99 2,
 Qo 100 (.fld (.t 13) 1),
 Qo 101 (.ldl (.t 100) none),
 Qo 102 (.call 64 [(.t 99),(.t 101)]),
 Qo 103 (.call 63 [(.t 96),(.t 98),(.t 102)]),
 Qm 14 103] [0,2,14,83,84,85])
 (.seq (.reg [Qm 104 14,
 Qo 105 (.bin .neq (.t 104) (.c (.d (.int .i64 0))))] [0,2,14,83,84,85,105])
 (.cond (.t 105) (.seq (.reg [Qm 106 14,
 Qm 6 106] [6])
 .ret)
 .skip))))))
 (.reg [Qo 107 (.bin .add (.t 85) (.c (.d (.int .i64 1)))),
 Qm 85 107] [0,2,83,84,85]))))
def Jw:C:=(.seq (.reg [Qo 4 (.box (.t 1) false),
 Qo 6 (.mv (.c (.d (.int .i64 0))))] [0,2,4])
 (.seq (.seq (.reg [Qm 15 0,
 Qo 16 (.nck (.t 15)),
 Qo 17 (.fld (.t 16) 1),
 Qo 18 (.ld (.t 17) none),
 Qo 19 (.ldl (.t 4) (some 6)),
 Qm 20 2,
 Qo 21 (.FY (.t 18) [(.t 19),(.t 20)]),
 Qm 7 21] [0,2,4,7])
 (.seq (.reg [Qm 22 7,
 Qo 23 (.bin .neq (.t 22) (.c (.d (.int .i64 0))))] [0,2,4,7,23])
 (.cond (.t 23) (.seq (.reg [Qm 24 7,
 Qm 6 24] [6])
 .ret)
 .skip)))
 (.seq (.seq (.reg [Qo 25 (.fld (.t 4) 4),
 Qo 26 (.ldl (.t 25) none),
 Qo 27 (.len (.t 26)),
 Qo 28 (.mv (.c (.d (.int .i64 0))))] [0,2,4,26,27,28])
 (.block 0 (.loop Mx)))
 (.seq (.seq (.reg [Qo 82 (.fld (.t 4) 5),
 Qo 83 (.ldl (.t 82) none),
 Qo 84 (.len (.t 83)),
 Qo 85 (.mv (.c (.d (.int .i64 0))))] [0,2,83,84,85])
 (.block 3 (.loop My)))
 (.seq (.reg [Qo 6 (.mv (.c (.d (.int .i64 0))))] [6])
 .ret)))))
noncomputable def EL:Cx:=⟨Tryz.prog,63,Tryz.f63,108,[300019,300026,300036,300039,300047,300051,300055,300064,300075,300083,300098,300101],[],[.t 6]⟩
theorem EG:Good EL:=⟨Tryz.func63,by kernel_rfl⟩
theorem G6:EL.rs=[.t 6]:=rfl
theorem Pl (hl:args.length≤108) (h:Run EL K [.code Jw] (BK args) E σ):AK Tryz.prog 63 args σ K:=
 AX (cx:=EL) (code:=Tryz.f63.body.getD .skip) EG (by kernel_rfl) Tryz.ntmps63 hl (AY EL _ (B0 Jw) _ [] (by kernel_rfl)) h
def MK:C:=(.seq (.reg [Qo 10 (.bin .lss (.t 9) (.t 8))] [0,7,8,9,10])
 (.seq (.cond (.t 10) .skip
 (.exit 0))
 (.seq (.block 1 (.seq (.reg [Qo 11 (.ix (.t 7) (.t 9) 1),
 Qo 12 (.ld (.t 11) none),
 Qm 6 12] [0,6,7,8,9])
 (.seq (.reg [Qm 13 6,
 Qo 14 (.bin .neq (.t 13) (.c (.d (.str []))))] [0,6,7,8,9,14])
 (.cond (.t 14) (.reg [Qm 15 6,
 Qm 16 0,
 Qo 17 (.bld [(.d (.str [])),.FD] [(0,1,(.t 15)),(1,1,(.t 16))]),
 Qo 18 (.fS (.t 17)),
 Qm 0 18] [0,7,8,9])
 .skip))))
 (.reg [Qo 19 (.bin .add (.t 9) (.c (.d (.int .i64 1)))),
 Qm 9 19] [0,7,8,9]))))
def JF:C:=(.seq (.reg [Qo 4 (.mv (.c .FD))] [0,1])
 (.seq (.seq (.reg [Qm 7 1,
 Qo 8 (.len (.t 7)),
 Qo 9 (.mv (.c (.d (.int .i64 0))))] [0,7,8,9])
 (.block 0 (.loop MK)))
 (.seq (.reg [Qm 20 0,
 Qm 4 20] [4])
 .ret)))
noncomputable def Dp:Cx:=⟨Tryz.prog,64,Tryz.f64,21,[100018],[],[.t 4]⟩
theorem JR:Good Dp:=⟨Tryz.func64,by kernel_rfl⟩
theorem OE:Dp.rs=[.t 4]:=rfl
theorem Oh (hl:args.length≤21) (h:Run Dp K [.code JF] (BK args) E σ):AK Tryz.prog 64 args σ K:=
 AX (cx:=Dp) (code:=Tryz.f64.body.getD .skip) JR (by kernel_rfl) Tryz.ntmps64 hl (AY Dp _ (B0 JF) _ [] (by kernel_rfl)) h
def Hg:C:=(.seq (.reg [Qo 9 (.bin .lss (.t 8) (.t 7))] [0,1,7,8,9])
 (.seq (.cond (.t 9) .skip
 (.exit 0))
 (.seq (.block 1 (.seq (.reg [Qm 10 8,
 Qm 5 10] [0,1,5,7,8])
 (.seq (.reg [Qm 11 1,
 Qm 12 0,
 Qm 13 5,
 Qo 14 (.ix (.t 12) (.t 13) 8),
 Qo 15 (.ld (.t 14) (some 8)),
 Qo 16 (.FY (.t 11) [(.t 15)])] [0,1,5,7,8,16])
 (.cond (.t 16) (.seq (.reg [Qm 17 5,
 Qm 4 17] [4])
 .ret)
 .skip))))
 (.reg [Qo 18 (.bin .add (.t 8) (.c (.d (.int .i64 1)))),
 Qm 8 18] [0,1,7,8]))))
def Ey:C:=(.seq (.reg [Qo 4 (.mv (.c (.d (.int .i64 0))))] [0,1])
 (.seq (.seq (.reg [Qm 6 0,
 Qo 7 (.len (.t 6)),
 Qo 8 (.mv (.c (.d (.int .i64 0))))] [0,1,7,8])
 (.block 0 (.loop Hg)))
 (.seq (.reg [Qo 4 (.mv (.c (.d (.int .i64 (-1)))))] [4])
 .ret)))
noncomputable def Bv:Cx:=⟨Tryz.prog,65,Tryz.f65,19,[],[],[.t 4]⟩
theorem Da:Good Bv:=⟨Tryz.func65,by kernel_rfl⟩
theorem IU:Bv.rs=[.t 4]:=rfl
theorem Il (hl:args.length≤19) (h:Run Bv K [.code Ey] (BK args) E σ):AK Tryz.prog 65 args σ K:=
 AX (cx:=Bv) (code:=Tryz.f65.body.getD .skip) Da (by kernel_rfl) Tryz.ntmps65 hl (AY Bv _ (B0 Ey) _ [] (by kernel_rfl)) h
def K9:C:=(.seq (.reg [Qo 2 (.box (.t 0) false),
 Qo 3 (.mv (.c (.d (.bool false))))] [1,2])
 (.seq (.reg [Qo 4 (.fld (.t 2) 0),
 Qo 5 (.ldl (.t 4) none),
 Qo 6 (.ld (.t 1) none),
 Qo 7 (.bin .eql (.t 5) (.t 6)),
 Qm 3 7] [3])
 .ret))
noncomputable def EY:Cx:=⟨Tryz.prog,66,Tryz.f66,8,[300005],[],[.t 3]⟩
theorem Kk:Good EY:=⟨Tryz.func66,by kernel_rfl⟩
theorem Po:EY.rs=[.t 3]:=rfl
theorem Qj (hl:args.length≤8) (h:Run EY K [.code K9] (BK args) E σ):AK Tryz.prog 66 args σ K:=
 AX (cx:=EY) (code:=Tryz.f66.body.getD .skip) Kk (by kernel_rfl) Tryz.ntmps66 hl (AY EY _ (B0 K9) _ [] (by kernel_rfl)) h
def MM:C:=(.seq (.reg [Qo 27 (.bin .lss (.t 26) (.t 25))] [4,24,25,26,27])
 (.seq (.cond (.t 27) .skip
 (.exit 0))
 (.seq (.block 1 (.seq (.reg [Qo 28 (.ix (.t 24) (.t 26) 1),
 Qo 29 (.ld (.t 28) none),
 Qm 7 29] [4,7,24,25,26])
 (.reg [Qo 30 (.ld (.t 4) none),
 Qm 31 7,
 Qo 32 (.FY (.t 30) [(.t 31)])] [4,24,25,26])))
 (.reg [Qo 33 (.bin .add (.t 26) (.c (.d (.int .i64 1)))),
 Qm 26 33] [4,24,25,26]))))
def JG:C:=(.seq (.seq (.reg [Qo 8 (.ld (.t 1) none),
 Qo 9 (.ld (.t 2) none),
 Qo 10 (.ix (.t 8) (.t 9) 1),
 Qo 11 (.ld (.t 10) none),
 Qm 12 0,
 Qo 13 (.ix (.t 11) (.t 12) 1),
 Qo 14 (.ld (.t 13) none)] [0,1,2,3,4,14])
 (.cond (.t 14) .ret
 .skip))
 (.seq (.reg [Qo 15 (.ld (.t 1) none),
 Qo 16 (.ld (.t 2) none),
 Qo 17 (.ix (.t 15) (.t 16) 1),
 Qo 18 (.ld (.t 17) none),
 Qm 19 0,
 Qo 20 (.ix (.t 18) (.t 19) 1),
 ⟨none,.st (.t 20) (.c (.d (.bool true))) 1,none⟩] [0,3,4])
 (.seq (.reg [Qo 21 (.ld (.t 3) none),
 Qm 22 0,
 Qo 23 (.ix (.t 21) (.t 22) 1),
 Qo 24 (.ld (.t 23) none),
 Qo 25 (.len (.t 24)),
 Qo 26 (.mv (.c (.d (.int .i64 0))))] [4,24,25,26])
 (.block 0 (.loop MM)))))
noncomputable def Dr:Cx:=⟨Tryz.prog,69,Tryz.f69,34,[],[],[]⟩
theorem GY:Good Dr:=⟨Tryz.func69,by kernel_rfl⟩
theorem OG:Dr.rs=[]:=rfl
theorem Oj (hl:args.length≤34) (h:Run Dr K [.code JG] (BK args) E σ):AK Tryz.prog 69 args σ K:=
 AX (cx:=Dr) (code:=Tryz.f69.body.getD .skip) GY (by kernel_rfl) Tryz.ntmps69 hl (AY Dr _ (B0 JG) _ [] (by kernel_rfl)) h
def MN:C:=(.seq (.reg [Qo 9 (.bin .lss (.t 8) (.t 7))] [0,2,3,7,8,9])
 (.seq (.cond (.t 9) .skip
 (.exit 0))
 (.seq (.block 1 (.seq (.reg [Qm 10 8,
 Qm 6 10] [0,2,3,6,7,8])
 (.seq (.reg [Qo 11 (.ld (.t 2) none),
 Qm 12 0,
 Qo 13 (.ix (.t 11) (.t 12) 1),
 Qo 14 (.ld (.t 13) none),
 Qm 15 6,
 Qo 16 (.ix (.t 14) (.t 15) 1),
 Qo 17 (.ld (.t 16) none),
 Qm 18 17,
 ⟨some 19,.ld (.t 2) none,some (18,true)⟩,
 ⟨some 20,.mv (.t 6),some (18,true)⟩,
 ⟨some 21,.ix (.t 19) (.t 20) 1,some (18,true)⟩,
 ⟨some 22,.ld (.t 21) none,some (18,true)⟩,
 ⟨some 23,.mv (.t 0),some (18,true)⟩,
 ⟨some 24,.ix (.t 22) (.t 23) 1,some (18,true)⟩,
 ⟨some 25,.ld (.t 24) none,some (18,true)⟩,
 ⟨some 26,.un .not (.t 25),some (18,true)⟩,
 Qo 27 (.pick (.t 18) (.t 26) (.c (.d (.bool false)))),
 Qm 28 27,
 ⟨some 29,.ld (.t 3) none,some (28,true)⟩,
 ⟨some 30,.mv (.t 6),some (28,true)⟩,
 ⟨some 31,.ix (.t 29) (.t 30) 1,some (28,true)⟩,
 ⟨some 32,.ld (.t 31) none,some (28,true)⟩,
 ⟨some 33,.un .not (.t 32),some (28,true)⟩,
 Qo 34 (.pick (.t 28) (.t 33) (.c (.d (.bool false))))] [0,2,3,7,8,34])
 (.cond (.t 34) (.seq (.reg [Qo 5 (.mv (.c (.d (.bool false))))] [5])
 .ret)
 .skip))))
 (.reg [Qo 35 (.bin .add (.t 8) (.c (.d (.int .i64 1)))),
 Qm 8 35] [0,2,3,7,8]))))
def JH:C:=(.seq (.reg [Qo 5 (.mv (.c (.d (.bool false))))] [0,1,2,3])
 (.seq (.seq (.reg [Qo 7 (.ld (.t 1) none),
 Qo 8 (.mv (.c (.d (.int .i64 0))))] [0,2,3,7,8])
 (.block 0 (.loop MN)))
 (.seq (.reg [Qo 5 (.mv (.c (.d (.bool true))))] [5])
 .ret)))
noncomputable def Ds:Cx:=⟨Tryz.prog,70,Tryz.f70,36,[],[],[.t 5]⟩
theorem GZ:Good Ds:=⟨Tryz.func70,by kernel_rfl⟩
theorem OH:Ds.rs=[.t 5]:=rfl
theorem Ok (hl:args.length≤36) (h:Run Ds K [.code JH] (BK args) E σ):AK Tryz.prog 70 args σ K:=
 AX (cx:=Ds) (code:=Tryz.f70.body.getD .skip) GZ (by kernel_rfl) Tryz.ntmps70 hl (AY Ds _ (B0 JH) _ [] (by kernel_rfl)) h
def KH:C:=(.seq (.reg [Qo 77 (.bin .lss (.t 76) (.t 75))] [0,5,11,52,53,54,74,75,76,77])
 (.seq (.cond (.t 77) .skip
 (.exit 2))
 (.seq (.block 3 (.seq (.reg [Qo 78 (.ix (.t 74) (.t 76) 3),
 Qo 79 (.ld (.t 78) (some 3)),
 Qo 13 (.al [(.d (.int .i64 0)),(.d (.str [])),.AU] false),
 ⟨none,.st (.t 13) (.t 79) 3,none⟩] [0,5,11,13,52,53,54,74,75,76])
 (.seq (.reg [Qm 81 0,
 Qo 82 (.ldl (.t 13) (some 3)),
 Qo 83 (.call 100 [(.t 81),(.t 82),(.c (.d (.bool true)))]),
 Qm 80 83,
 Qo 84 (.ext (.t 80) 0),
 Qo 85 (.ext (.t 80) 1),
 Qo 14 (.al [(.d (.int .i64 0)),(.d (.int .i64 0)),.AU] false),
 ⟨none,.st (.t 14) (.t 84) 3,none⟩,
 Qm 15 85] [0,5,11,14,15,52,53,54,74,75,76])
 (.seq (.seq (.reg [Qm 86 15,
 Qo 87 (.bin .neq (.t 86) (.c (.d (.int .i64 0))))] [0,5,11,14,15,52,53,54,74,75,76,87])
 (.cond (.t 87) (.seq (.reg [Qm 88 15,
 Qm 4 88] [4])
 .ret)
 .skip))
 (.reg [Qo 89 (.fld (.t 11) 1),
 Qo 90 (.ldl (.t 89) none),
 Qo 91 (.ldl (.t 14) (some 3)),
 Qo 92 (.bsl 3 1 [(.d (.int .i64 0)),(.d (.int .i64 0)),.AU] [(0,3,(.t 91))]),
 Qo 93 (.app 57 3 40 (.t 90) (.t 92)),
 Qo 94 (.fld (.t 11) 1),
 ⟨none,.st (.t 94) (.t 93) 1,none⟩] [0,5,11,52,53,54,74,75,76])))))
 (.reg [Qo 95 (.bin .add (.t 76) (.c (.d (.int .i64 1)))),
 Qm 76 95] [0,5,11,52,53,54,74,75,76]))))
def Fw:C:=(.seq (.reg [Qo 55 (.bin .lss (.t 54) (.t 53))] [0,5,52,53,54,55])
 (.seq (.cond (.t 55) .skip
 (.exit 0))
 (.seq (.block 1 (.seq (.reg [Qo 56 (.ix (.t 52) (.t 54) 2),
 Qo 57 (.ld (.t 56) (some 2)),
 Qo 7 (.al [(.d (.str [])),.AU] false),
 ⟨none,.st (.t 7) (.t 57) 2,none⟩] [0,5,7,52,53,54])
 (.seq (.seq (.reg [Qm 59 0,
 Qo 60 (.nck (.t 59)),
 Qo 61 (.fld (.t 60) 0),
 Qo 62 (.ld (.t 61) none),
 Qo 63 (.fld (.t 7) 0),
 Qo 64 (.ldl (.t 63) none),
 Qo 65 (.call 74 [(.t 62),(.t 64)]),
 Qm 58 65,
 Qo 66 (.ext (.t 58) 0),
 Qo 67 (.ext (.t 58) 1),
 Qo 68 (.ext (.t 58) 2),
 Qm 8 66,
 Qm 9 67,
 Qm 10 68] [0,5,7,10,52,53,54])
 (.seq (.reg [Qm 69 10] [0,5,7,52,53,54,69])
 (.cond (.t 69) (.seq (.reg [Qo 4 (.mv (.c (.d (.int .i64 4))))] [4])
 .ret)
 .skip)))
 (.seq (.reg [Qo 70 (.fld (.t 7) 0),
 Qo 71 (.ldl (.t 70) none),
 Qo 72 (.bld [(.d (.str [])),.AU] [(0,1,(.t 71))]),
 Qo 11 (.al [(.d (.str [])),.AU] false),
 ⟨none,.st (.t 11) (.t 72) 2,none⟩] [0,5,7,11,52,53,54])
 (.seq (.seq (.reg [Qo 73 (.fld (.t 7) 1),
 Qo 74 (.ldl (.t 73) none),
 Qo 75 (.len (.t 74)),
 Qo 76 (.mv (.c (.d (.int .i64 0))))] [0,5,11,52,53,54,74,75,76])
 (.block 2 (.loop KH)))
 (.Sm (.one (Qm 96 0)
 (.one (Qo 97 (.nck (.t 96)))
 (.one (Qo 98 (.fld (.t 97) 0))
 (.one (Qm 100 5)
 (.one (Qm 101 0)
 (.one (Qo 102 (.nck (.t 101)))
 (.one (Qo 103 (.fld (.t 102) 0))
 (.one (Qo 104 (.ld (.t 103) none))
 (.one (Qm 105 5)
 (.one (Qo 106 (.ix (.t 104) (.t 105) 3))
 (.one (Qo 107 (.fld (.t 106) 2))
 (.one (Qo 108 (.ld (.t 107) none))
 (.one (Qo 109 (.ldl (.t 11) (some 2)))
 (.one (Qo 110 (.bsl 2 1 [(.d (.str [])),.AU] [(0,2,(.t 109))]))
 (.alt (Qo 99 (.ld (.t 98) none))
 (.one (Qo 111 (.app 124 2 40 (.t 108) (.t 110)))
 (.one (Qo 112 (.ix (.t 99) (.t 100) 3))
 (.one (Qo 113 (.fld (.t 112) 2))
 (.one ⟨none,.st (.t 113) (.t 111) 1,none⟩
 .done))))
 (.alt (Qo 111 (.app 124 2 40 (.t 108) (.t 110)))
 (.one (Qo 99 (.ld (.t 98) none))
 (.one (Qo 112 (.ix (.t 99) (.t 100) 3))
 (.one (Qo 113 (.fld (.t 112) 2))
 (.one ⟨none,.st (.t 113) (.t 111) 1,none⟩
 .done))))
 .done)))))))))))))))) [0,5,52,53,54]))))))
 (.reg [Qo 114 (.bin .add (.t 54) (.c (.d (.int .i64 1)))),
 Qm 54 114] [0,5,52,53,54]))))
def Lf:C:=(.seq (.reg [Qo 3 (.box (.t 1) false),
 Qo 4 (.mv (.c (.d (.int .i64 0))))] [0,3])
 (.seq (.seq (.reg [Qm 16 0,
 Qo 17 (.fld (.t 3) 0),
 Qo 18 (.ldl (.t 17) none),
 Qo 19 (.call 99 [(.t 16),(.t 18)]),
 Qo 20 (.bin .geq (.t 19) (.c (.d (.int .i64 0)))),
 Qm 21 20,
 ⟨some 22,.fld (.t 3) 1,some (21,false)⟩,
 ⟨some 23,.ldl (.t 22) none,some (21,false)⟩,
 ⟨some 24,.call 45 [(.t 23)],some (21,false)⟩,
 Qo 25 (.pick (.t 21) (.c (.d (.bool true))) (.t 24))] [0,3,25])
 (.cond (.t 25) (.seq (.reg [Qo 4 (.mv (.c (.d (.int .i64 4))))] [4])
 .ret)
 .skip))
 (.seq (.Sm (.one (Qm 26 0)
 (.one (Qm 27 0)
 (.one (Qo 28 (.nck (.t 27)))
 (.one (Qo 29 (.fld (.t 28) 0))
 (.one (Qo 31 (.fld (.t 3) 0))
 (.one (Qo 32 (.ldl (.t 31) none))
 (.one (Qo 33 (.fld (.t 3) 1))
 (.one (Qo 34 (.ldl (.t 33) none))
 (.one (Qo 35 (.len (.t 34)))
 (.one (Qo 36 (.bld [(.d (.str [])),(.d (.int .i64 0)),.AU] [(0,1,(.t 32)),(1,1,(.t 35))]))
 (.alt (Qo 30 (.ld (.t 29) none))
 (.one (Qo 37 (.RP 122 3 1 [(.d (.str [])),(.d (.int .i64 0)),.AU] [(0,3,(.t 36))]))
 (.one (Qo 38 (.ex (.W0 122 3) [(.t 30),(.t 37)]))
 (.one (Qo 39 (.nck (.t 26)))
 (.one (Qo 40 (.fld (.t 39) 0))
 (.one ⟨none,.st (.t 40) (.t 38) 1,none⟩
 .done)))))
 (.alt (Qo 37 (.RP 122 3 1 [(.d (.str [])),(.d (.int .i64 0)),.AU] [(0,3,(.t 36))]))
 (.one (Qo 30 (.ld (.t 29) none))
 (.one (Qo 38 (.ex (.W0 122 3) [(.t 30),(.t 37)]))
 (.one (Qo 39 (.nck (.t 26)))
 (.one (Qo 40 (.fld (.t 39) 0))
 (.one ⟨none,.st (.t 40) (.t 38) 1,none⟩
 .done)))))
 .done)))))))))))) [0,3])
 (.seq (.reg [Qm 41 0,
 Qo 42 (.ldl (.t 3) (some 3)),
 Qo 43 (.nck (.t 41)),
 Qo 44 (.fld (.t 43) 1),
 ⟨none,.st (.t 44) (.t 42) 3,none⟩] [0,3])
 (.seq (.reg [Qm 45 0,
 Qo 46 (.nck (.t 45)),
 Qo 47 (.fld (.t 46) 0),
 Qo 48 (.ld (.t 47) none),
 Qo 49 (.len (.t 48)),
 Qo 50 (.bin .sub (.t 49) (.c (.d (.int .i64 1)))),
 Qm 5 50] [0,3,5])
 (.seq (.seq (.reg [Qo 51 (.fld (.t 3) 2),
 Qo 52 (.ldl (.t 51) none),
 Qo 53 (.len (.t 52)),
 Qo 54 (.mv (.c (.d (.int .i64 0))))] [0,5,52,53,54])
 (.block 0 (.loop Fw)))
 (.seq (.reg [Qo 4 (.mv (.c (.d (.int .i64 0))))] [4])
 .ret)))))))
def Ly:List (List Nat×PT):=[([0,3],.done),([0,3,25],.done),([4],.done),([0,3],(.one 0 (.one 1 (.one 2 (.one 3 (.one 5 (.one 6 (.one 7 (.one 8 (.one 9 (.one 10 (.alt 4 (.one 11 (.one 12 (.one 13 (.one 14 (.one 15 .done))))) (.alt 11 (.one 4 (.one 12 (.one 13 (.one 14 (.one 15 .done))))) .done))))))))))))),([0,3],.done),([0,3,5],.done),([0,5,52,53,54],.done),([0,5,52,53,54,55],.done),([0,5,7,52,53,54],.done),([0,5,7,10,52,53,54],.done),([0,5,7,52,53,54,69],.done),([4],.done),([0,5,7,11,52,53,54],.done),([0,5,11,52,53,54,74,75,76],.done),([0,5,11,52,53,54,74,75,76,77],.done),([0,5,11,13,52,53,54,74,75,76],.done),([0,5,11,14,15,52,53,54,74,75,76],.done),([0,5,11,14,15,52,53,54,74,75,76,87],.done),([4],.done),([0,5,11,52,53,54,74,75,76],.done),([0,5,11,52,53,54,74,75,76],.done),([0,5,52,53,54],(.one 0 (.one 1 (.one 2 (.one 4 (.one 5 (.one 6 (.one 7 (.one 8 (.one 9 (.one 10 (.one 11 (.one 12 (.one 13 (.one 14 (.alt 3 (.one 15 (.one 16 (.one 17 (.one 18 .done)))) (.alt 15 (.one 3 (.one 16 (.one 17 (.one 18 .done)))) .done))))))))))))))))),([0,5,52,53,54],.done),([4],.done)]
noncomputable def CK:Cx:=⟨Tryz.prog,72,Tryz.f72,115,[37,100038,300018,300023,300032,300034,300042,300052,300064,300071,300074,300082,300090,300091,300109],[],[.t 4]⟩
theorem CH:Good CK:=⟨Tryz.func72,by kernel_rfl⟩
theorem LP:CK.rs=[.t 4]:=rfl
theorem Lo (hl:args.length≤115) (h:Run CK K [.code Lf] (BK args) E σ):AK Tryz.prog 72 args σ K:=
 AX (cx:=CK) (code:=Tryz.f72.body.getD .skip) CH (by kernel_rfl) Tryz.ntmps72 hl (AY CK _ Ly _ [] (by kernel_rfl)) h
def Gx:C:=(.seq (.reg [Qo 4 (.mv (.c (.d (.bool false))))] [0,1])
 (.seq (.reg [Qm 5 0,
 Qm 6 1,
 Qo 7 (.call 101 [(.t 5),(.t 6)]),
 Qo 8 (.bin .geq (.t 7) (.c (.d (.int .i64 0)))),
 Qm 4 8] [4])
 .ret))
noncomputable def Ci:Cx:=⟨Tryz.prog,73,Tryz.f73,9,[],[],[.t 4]⟩
theorem Gz:Good Ci:=⟨Tryz.func73,by kernel_rfl⟩
theorem LR:Ci.rs=[.t 4]:=rfl
theorem Lq (hl:args.length≤9) (h:Run Ci K [.code Gx] (BK args) E σ):AK Tryz.prog 73 args σ K:=
 AX (cx:=Ci) (code:=Tryz.f73.body.getD .skip) Gz (by kernel_rfl) Tryz.ntmps73 hl (AY Ci _ (B0 Gx) _ [] (by kernel_rfl)) h
def Mv:C:=(.seq (.reg [Qo 21 (.bin .lss (.t 20) (.t 19))] [0,1,7,10,11,19,20,21])
 (.seq (.cond (.t 21) .skip
 (.exit 2))
 (.seq (.block 3 (.seq (.reg [Qm 22 20,
 Qm 8 22] [0,1,7,8,10,11,19,20])
 (.seq (.reg [Qm 23 0,
 Qm 24 7,
 Qo 25 (.ix (.t 23) (.t 24) 3),
 Qo 26 (.fld (.t 25) 2),
 Qo 27 (.ld (.t 26) none),
 Qm 28 8,
 Qo 29 (.ix (.t 27) (.t 28) 2),
 Qo 30 (.fld (.t 29) 0),
 Qo 31 (.ld (.t 30) none),
 Qm 32 1,
 Qo 33 (.bin .eql (.t 31) (.t 32))] [0,1,7,8,10,11,19,20,33])
 (.cond (.t 33) (.seq (.reg [Qm 34 7,
 Qm 35 8,
 Qm 4 34,
 Qm 5 35,
 Qo 6 (.mv (.c (.d (.bool true))))] [4,5,6])
 .ret)
 .skip))))
 (.reg [Qo 36 (.bin .add (.t 20) (.c (.d (.int .i64 1)))),
 Qm 20 36] [0,1,7,10,11,19,20]))))
def Mw:C:=(.seq (.reg [Qo 12 (.bin .lss (.t 11) (.t 10))] [0,1,10,11,12])
 (.seq (.cond (.t 12) .skip
 (.exit 0))
 (.seq (.block 1 (.seq (.reg [Qm 13 11,
 Qm 7 13] [0,1,7,10,11])
 (.seq (.reg [Qm 14 0,
 Qm 15 7,
 Qo 16 (.ix (.t 14) (.t 15) 3),
 Qo 17 (.fld (.t 16) 2),
 Qo 18 (.ld (.t 17) none),
 Qo 19 (.len (.t 18)),
 Qo 20 (.mv (.c (.d (.int .i64 0))))] [0,1,7,10,11,19,20])
 (.block 2 (.loop Mv)))))
 (.reg [Qo 37 (.bin .add (.t 11) (.c (.d (.int .i64 1)))),
 Qm 11 37] [0,1,10,11]))))
def Ju:C:=(.seq (.reg [Qo 4 (.mv (.c (.d (.int .i64 0)))),
 Qo 5 (.mv (.c (.d (.int .i64 0)))),
 Qo 6 (.mv (.c (.d (.bool false))))] [0,1])
 (.seq (.seq (.reg [Qm 9 0,
 Qo 10 (.len (.t 9)),
 Qo 11 (.mv (.c (.d (.int .i64 0))))] [0,1,10,11])
 (.block 0 (.loop Mw)))
 (.seq (.reg [Qo 4 (.mv (.c (.d (.int .i64 0)))),
 Qo 5 (.mv (.c (.d (.int .i64 0)))),
 Qo 6 (.mv (.c (.d (.bool false))))] [4,5,6])
 .ret)))
noncomputable def EJ:Cx:=⟨Tryz.prog,74,Tryz.f74,38,[],[],[.t 4,.t 5,.t 6]⟩
theorem DJ:Good EJ:=⟨Tryz.func74,by kernel_rfl⟩
theorem PB:EJ.rs=[.t 4,.t 5,.t 6]:=rfl
theorem KB (hl:args.length≤38) (h:Run EJ K [.code Ju] (BK args) E σ):AK Tryz.prog 74 args σ K:=
 AX (cx:=EJ) (code:=Tryz.f74.body.getD .skip) DJ (by kernel_rfl) Tryz.ntmps74 hl (AY EJ _ (B0 Ju) _ [] (by kernel_rfl)) h
def ML:C:=(.seq (.reg [Qo 16 (.bin .lss (.t 15) (.t 14))] [2,5,6,7,13,14,15,16])
 (.seq (.cond (.t 16) .skip
 (.exit 0))
 (.seq (.block 1 (.seq (.reg [Qm 17 15,
 Qo 18 (.ix (.t 13) (.t 15) 8),
 Qo 19 (.ld (.t 18) (some 8)),
 Qo 9 (.al [(.d (.str [])),.AU,(.d (.int .i64 0)),(.d (.str [])),(.d (.int .i64 0)),.AU,.AU,.AU] false),
 Qm 8 17,
 ⟨none,.st (.t 9) (.t 19) 8,none⟩] [2,5,6,7,8,9,13,14,15])
 (.seq (.reg [Qo 21 (.fld (.t 2) 2),
 Qo 22 (.ldl (.t 21) none),
 Qo 23 (.fld (.t 9) 0),
 Qo 24 (.ldl (.t 23) none),
 Qo 25 (.call 74 [(.t 22),(.t 24)]),
 Qm 20 25,
 Qo 26 (.ext (.t 20) 0),
 Qo 27 (.ext (.t 20) 1),
 Qo 28 (.ext (.t 20) 2),
 Qm 10 26,
 Qm 11 27,
 Qm 12 28] [2,5,6,7,8,9,10,11,12,13,14,15])
 (.seq (.seq (.reg [Qm 29 12,
 Qo 30 (.un .not (.t 29))] [2,5,6,7,8,9,10,11,13,14,15,30])
 (.cond (.t 30) (.seq (.reg [Qo 4 (.mv (.c (.d (.int .i64 3))))] [4])
 .ret)
 .skip))
 (.seq (.seq (.reg [Qo 31 (.fld (.t 9) 1),
 Qo 32 (.ldl (.t 31) none),
 Qo 33 (.len (.t 32)),
 Qo 34 (.fld (.t 2) 2),
 Qo 35 (.ldl (.t 34) none),
 Qm 36 10,
 Qo 37 (.ix (.t 35) (.t 36) 3),
 Qo 38 (.fld (.t 37) 2),
 Qo 39 (.ld (.t 38) none),
 Qm 40 11,
 Qo 41 (.ix (.t 39) (.t 40) 2),
 Qo 42 (.fld (.t 41) 1),
 Qo 43 (.ld (.t 42) none),
 Qo 44 (.len (.t 43)),
 Qo 45 (.bin .neq (.t 33) (.t 44))] [2,5,6,7,8,9,10,11,13,14,15,45])
 (.cond (.t 45) (.seq (.reg [Qo 4 (.mv (.c (.d (.int .i64 5))))] [4])
 .ret)
 .skip))
 (.seq (.seq (.reg [Qo 46 (.fld (.t 9) 1),
 Qo 47 (.ldl (.t 46) none),
 Qo 48 (.call 45 [(.t 47)])] [2,5,6,7,8,10,11,13,14,15,48])
 (.cond (.t 48) (.seq (.reg [Qo 4 (.mv (.c (.d (.int .i64 4))))] [4])
 .ret)
 .skip))
 (.seq (.seq (.reg [Qm 49 8,
 Qo 50 (.bin .eql (.t 49) (.c (.d (.int .i64 0))))] [2,5,6,7,10,11,13,14,15,50])
 (.cond (.t 50) (.reg [Qm 51 10,
 Qo 52 (.fld (.t 2) 2),
 Qo 53 (.ldl (.t 52) none),
 Qm 54 10,
 Qo 55 (.ix (.t 53) (.t 54) 3),
 Qo 56 (.fld (.t 55) 2),
 Qo 57 (.ld (.t 56) none),
 Qo 58 (.len (.t 57)),
 Qm 6 51,
 Qo 59 (.msl 4 1 1 [(.d (.bool false))] (.t 58) (.t 58)),
 Qm 7 59] [2,5,6,7,10,11,13,14,15])
 .skip))
 (.seq (.seq (.reg [Qm 60 10,
 Qm 61 6,
 Qo 62 (.bin .neq (.t 60) (.t 61)),
 Qm 63 62,
 ⟨some 64,.mv (.t 7),some (63,false)⟩,
 ⟨some 65,.mv (.t 11),some (63,false)⟩,
 ⟨some 66,.ix (.t 64) (.t 65) 1,some (63,false)⟩,
 ⟨some 67,.ld (.t 66) none,some (63,false)⟩,
 Qo 68 (.pick (.t 63) (.c (.d (.bool true))) (.t 67))] [2,5,6,7,11,13,14,15,68])
 (.cond (.t 68) (.seq (.reg [Qo 5 (.mv (.c (.d (.bool false))))] [2,5,6,7,13,14,15])
 (.exit 1))
 .skip))
 (.reg [Qm 69 7,
 Qm 70 11,
 Qo 71 (.ix (.t 69) (.t 70) 1),
 ⟨none,.st (.t 71) (.c (.d (.bool true))) 1,none⟩] [2,5,6,7,13,14,15])))))))))
 (.reg [Qo 72 (.bin .add (.t 15) (.c (.d (.int .i64 1)))),
 Qm 15 72] [2,5,6,7,13,14,15]))))
def OY:C:=(.seq (.reg [Qo 2 (.box (.t 0) false),
 Qo 4 (.mv (.c (.d (.int .i64 0))))] [1,2])
 (.seq (.reg [Qo 5 (.mv (.c (.d (.bool true))))] [1,2,5])
 (.seq (.reg [Qo 6 (.mv (.c (.d (.int .i64 0))))] [1,2,5,6])
 (.seq (.reg [Qo 7 (.mv (.c .AU))] [1,2,5,6,7])
 (.seq (.seq (.reg [Qm 13 1,
 Qo 14 (.len (.t 13)),
 Qo 15 (.mv (.c (.d (.int .i64 0))))] [2,5,6,7,13,14,15])
 (.block 0 (.loop ML)))
 (.seq (.seq (.reg [Qm 73 5,
 Qo 74 (.un .not (.t 73)),
 Qm 75 74,
 ⟨some 76,.mv (.t 7),some (75,false)⟩,
 ⟨some 77,.call 102 [(.t 76),(.c (.d (.bool false)))],some (75,false)⟩,
 Qo 78 (.pick (.t 75) (.c (.d (.bool true))) (.t 77))] [78])
 (.cond (.t 78) (.seq (.reg [Qo 4 (.mv (.c (.d (.int .i64 7))))] [4])
 .ret)
 .skip))
 (.seq (.reg [Qo 4 (.mv (.c (.d (.int .i64 0))))] [4])
 .ret)))))))
def PG:List (List Nat×PT):=[([1,2],.done),([1,2,5],.done),([1,2,5,6],.done),([1,2,5,6,7],.done),([2,5,6,7,13,14,15],.done),([2,5,6,7,13,14,15,16],.done),([2,5,6,7,8,9,13,14,15],.done),([2,5,6,7,8,9,10,11,12,13,14,15],.done),([2,5,6,7,8,9,10,11,13,14,15,30],.done),([4],.done),([2,5,6,7,8,9,10,11,13,14,15,45],.done),([4],.done),([2,5,6,7,8,10,11,13,14,15,48],.done),([4],.done),([2,5,6,7,10,11,13,14,15,50],.done),([2,5,6,7,10,11,13,14,15],(.one 0 (.one 1 (.one 2 (.one 3 (.one 4 (.one 5 (.one 6 (.one 7 (.one 9 (.one 8 (.one 10 .done)))))))))))),([2,5,6,7,11,13,14,15,68],.done),([2,5,6,7,13,14,15],.done),([2,5,6,7,13,14,15],.done),([2,5,6,7,13,14,15],.done),([78],.done),([4],.done),([4],.done)]
noncomputable def Dq:Cx:=⟨Tryz.prog,75,Tryz.f75,79,[300022,300024,300032,300035,300047,300053],[],[.t 4]⟩
theorem Bx:Good Dq:=⟨Tryz.func75,by kernel_rfl⟩
theorem OF:Dq.rs=[.t 4]:=rfl
theorem Oi (hl:args.length≤79) (h:Run Dq K [.code OY] (BK args) E σ):AK Tryz.prog 75 args σ K:=
 AX (cx:=Dq) (code:=Tryz.f75.body.getD .skip) Bx (by kernel_rfl) Tryz.ntmps75 hl (AY Dq _ PG _ [] (by kernel_rfl)) h
def IZ:C:=(.seq (.reg [Qo 3 (.box (.t 1) true),
 Qo 4 (.mv (.c (.d (.int .i64 0))))] [0,3])
 (.seq (.reg [Qm 5 0,
 Qo 6 (.nck (.t 5)),
 Qo 7 (.fld (.t 6) 0),
 Qo 8 (.ld (.t 7) none),
 Qo 9 (.mkf 130 [] [(.t 3)]),
 Qo 10 (.call 129 [(.t 8),(.t 9)]),
 Qm 4 10] [4])
 .ret))
noncomputable def DZ:Cx:=⟨Tryz.prog,99,Tryz.f99,11,[3],[],[.t 4]⟩
theorem I3:Good DZ:=⟨Tryz.func99,by kernel_rfl⟩
theorem NX:DZ.rs=[.t 4]:=rfl
theorem Nz (hl:args.length≤11) (h:Run DZ K [.code IZ] (BK args) E σ):AK Tryz.prog 99 args σ K:=
 AX (cx:=DZ) (code:=Tryz.f99.body.getD .skip) I3 (by kernel_rfl) Tryz.ntmps99 hl (AY DZ _ (B0 IZ) _ [] (by kernel_rfl)) h
def Fy:C:=(.seq (.reg [Qo 82 (.bin .lss (.t 81) (.t 80))] [0,6,8,79,80,81,82])
 (.seq (.cond (.t 82) .skip
 (.exit 1))
 (.seq (.block 2 (.seq (.reg [Qo 83 (.ix (.t 79) (.t 81) 3),
 Qo 84 (.ld (.t 83) (some 3)),
 Qo 10 (.al [(.d (.int .i64 0)),(.d (.str [])),.AU] false),
 ⟨none,.st (.t 10) (.t 84) 3,none⟩] [0,6,8,10,79,80,81])
 (.seq (.reg [Qm 86 0,
 Qo 87 (.ldl (.t 10) (some 3)),
 Qo 88 (.call 100 [(.t 86),(.t 87),(.c (.d (.bool false)))]),
 Qm 85 88,
 Qo 89 (.ext (.t 85) 0),
 Qo 90 (.ext (.t 85) 1),
 Qo 11 (.al [(.d (.int .i64 0)),(.d (.int .i64 0)),.AU] false),
 ⟨none,.st (.t 11) (.t 89) 3,none⟩,
 Qm 12 90] [0,6,8,11,12,79,80,81])
 (.seq (.seq (.reg [Qm 91 12,
 Qo 92 (.bin .neq (.t 91) (.c (.d (.int .i64 0))))] [0,6,8,11,12,79,80,81,92])
 (.cond (.t 92) (.seq (.reg [Qo 93 (.bld [(.d (.int .i64 0)),(.d (.int .i64 0)),.AU] []),
 Qm 94 12,
 ⟨none,.st (.t 6) (.t 93) 3,none⟩,
 Qm 7 94] [6,7])
 .ret)
 .skip))
 (.reg [Qo 95 (.fld (.t 8) 2),
 Qo 96 (.ldl (.t 95) none),
 Qo 97 (.ldl (.t 11) (some 3)),
 Qo 98 (.bsl 3 1 [(.d (.int .i64 0)),(.d (.int .i64 0)),.AU] [(0,3,(.t 97))]),
 Qo 99 (.app 57 3 40 (.t 96) (.t 98)),
 Qo 100 (.fld (.t 8) 2),
 ⟨none,.st (.t 100) (.t 99) 1,none⟩] [0,6,8,79,80,81])))))
 (.reg [Qo 101 (.bin .add (.t 81) (.c (.d (.int .i64 1)))),
 Qm 81 101] [0,6,8,79,80,81]))))
def Gw:C:=(.seq (.reg [Qo 4 (.box (.t 1) false),
 Qo 6 (.al [(.d (.int .i64 0)),(.d (.int .i64 0)),.AU] false),
 Qo 7 (.mv (.c (.d (.int .i64 0))))] [0,2,4,6])
 (.seq (.reg [Qo 13 (.fld (.t 4) 0),
 Qo 14 (.ldl (.t 13) none),
 Qo 15 (.bld [(.d (.int .i64 0)),(.d (.int .i64 0)),.AU] [(0,1,(.t 14))]),
 Qo 8 (.al [(.d (.int .i64 0)),(.d (.int .i64 0)),.AU] false),
 ⟨none,.st (.t 8) (.t 15) 3,none⟩] [0,2,4,6,8])
 (.seq (.seq (.reg [Qo 16 (.fld (.t 4) 0),
 Qo 17 (.ldl (.t 16) none)] [0,2,4,6,8,17])
 (.block 0 (.seq (.reg [Qo 19 (.bin .eql (.t 17) (.c (.d (.int .i64 4)))),
 Qm 18 19] [0,2,4,6,8,17,18])
 (.cond (.t 18) (.seq (.reg [Qm 20 0,
 Qo 21 (.nck (.t 20)),
 Qo 22 (.fld (.t 21) 1),
 Qo 23 (.fld (.t 22) 1),
 Qo 24 (.ld (.t 23) none),
 Qo 25 (.fld (.t 4) 1),
 Qo 26 (.ldl (.t 25) none),
 Qo 27 (.call 101 [(.t 24),(.t 26)]),
 Qo 28 (.fld (.t 8) 1),
 ⟨none,.st (.t 28) (.t 27) 1,none⟩] [0,4,6,8])
 (.seq (.reg [Qo 29 (.fld (.t 8) 1),
 Qo 30 (.ldl (.t 29) none),
 Qo 31 (.bin .lss (.t 30) (.c (.d (.int .i64 0))))] [0,4,6,8,31])
 (.cond (.t 31) (.seq (.reg [Qo 32 (.bld [(.d (.int .i64 0)),(.d (.int .i64 0)),.AU] []),
 ⟨none,.st (.t 6) (.t 32) 3,none⟩,
 Qo 7 (.mv (.c (.d (.int .i64 3))))] [6,7])
 .ret)
 .skip)))
 (.seq (.reg [Qo 34 (.bin .eql (.t 17) (.c (.d (.int .i64 5)))),
 Qm 33 34] [0,2,4,6,8,33])
 (.cond (.t 33) (.seq (.reg [Qm 35 0,
 Qo 36 (.fld (.t 4) 1),
 Qo 37 (.ldl (.t 36) none),
 Qo 38 (.call 99 [(.t 35),(.t 37)]),
 Qo 39 (.fld (.t 8) 1),
 ⟨none,.st (.t 39) (.t 38) 1,none⟩] [0,2,4,6,8])
 (.seq (.seq (.reg [Qo 40 (.fld (.t 8) 1),
 Qo 41 (.ldl (.t 40) none),
 Qo 42 (.bin .lss (.t 41) (.c (.d (.int .i64 0))))] [0,2,4,6,8,42])
 (.cond (.t 42) (.seq (.reg [Qo 43 (.bld [(.d (.int .i64 0)),(.d (.int .i64 0)),.AU] []),
 ⟨none,.st (.t 6) (.t 43) 3,none⟩,
 Qo 7 (.mv (.c (.d (.int .i64 3))))] [6,7])
 .ret)
 .skip))
 (.seq (.seq (.reg [Qo 44 (.fld (.t 4) 2),
 Qo 45 (.ldl (.t 44) none),
 Qo 46 (.len (.t 45)),
 Qm 47 0,
 Qo 48 (.nck (.t 47)),
 Qo 49 (.fld (.t 48) 0),
 Qo 50 (.ld (.t 49) none),
 Qo 51 (.fld (.t 8) 1),
 Qo 52 (.ldl (.t 51) none),
 Qo 53 (.ix (.t 50) (.t 52) 3),
 Qo 54 (.fld (.t 53) 1),
 Qo 55 (.ld (.t 54) none),
 Qo 56 (.bin .neq (.t 46) (.t 55))] [0,2,4,6,8,56])
 (.cond (.t 56) (.seq (.reg [Qo 57 (.bld [(.d (.int .i64 0)),(.d (.int .i64 0)),.AU] []),
 ⟨none,.st (.t 6) (.t 57) 3,none⟩,
 Qo 7 (.mv (.c (.d (.int .i64 5))))] [6,7])
 .ret)
 .skip))
 (.seq (.reg [Qo 58 (.fld (.t 8) 1),
 Qo 59 (.ldl (.t 58) none),
 Qm 60 0,
 Qo 61 (.nck (.t 60)),
 Qo 62 (.fld (.t 61) 0),
 Qo 63 (.ld (.t 62) none),
 Qo 64 (.len (.t 63)),
 Qo 65 (.bin .sub (.t 64) (.c (.d (.int .i64 1)))),
 Qo 66 (.bin .eql (.t 59) (.t 65)),
 Qm 67 66,
 ⟨some 68,.mv (.t 2),some (67,true)⟩,
 ⟨some 69,.mv (.t 68),some (67,true)⟩,
 ⟨some 70,.mv (.t 0),some (69,true)⟩,
 ⟨some 71,.fld (.t 4) 2,some (69,true)⟩,
 ⟨some 72,.ldl (.t 71) none,some (69,true)⟩,
 ⟨some 73,.call 131 [(.t 70),(.t 72)],some (69,true)⟩,
 ⟨some 74,.pick (.t 69) (.t 73) (.c (.d (.bool false))),some (67,true)⟩,
 ⟨some 75,.un .not (.t 74),some (67,true)⟩,
 Qo 76 (.pick (.t 67) (.t 75) (.c (.d (.bool false))))] [0,4,6,8,76])
 (.cond (.t 76) (.seq (.reg [Qo 77 (.bld [(.d (.int .i64 0)),(.d (.int .i64 0)),.AU] []),
 ⟨none,.st (.t 6) (.t 77) 3,none⟩,
 Qo 7 (.mv (.c (.d (.int .i64 7))))] [6,7])
 .ret)
 .skip)))))
 .skip))))))
 (.seq (.seq (.reg [Qo 78 (.fld (.t 4) 2),
 Qo 79 (.ldl (.t 78) none),
 Qo 80 (.len (.t 79)),
 Qo 81 (.mv (.c (.d (.int .i64 0))))] [0,6,8,79,80,81])
 (.block 1 (.loop Fy)))
 (.seq (.reg [Qo 102 (.ldl (.t 8) (some 3)),
 ⟨none,.st (.t 6) (.t 102) 3,none⟩,
 Qo 7 (.mv (.c (.d (.int .i64 0))))] [6,7])
 .ret)))))
noncomputable def CL:Cx:=⟨Tryz.prog,100,Tryz.f100,103,[300014,300017,300026,300030,300037,300041,300045,300052,300059,300072,300079,300087,300096,300097,300102],[],[.c 6 (some 3),.t 7]⟩
theorem Ba:Good CL:=⟨Tryz.func100,by kernel_rfl⟩
theorem LQ:CL.rs=[.c 6 (some 3),.t 7]:=rfl
theorem Lp (hl:args.length≤103) (h:Run CL K [.code Gw] (BK args) E σ):AK Tryz.prog 100 args σ K:=
 AX (cx:=CL) (code:=Tryz.f100.body.getD .skip) Ba (by kernel_rfl) Tryz.ntmps100 hl (AY CL _ (B0 Gw) _ [] (by kernel_rfl)) h
def Lg:C:=(.seq (.reg [Qo 9 (.bin .lss (.t 8) (.t 7))] [0,1,7,8,9])
 (.seq (.cond (.t 9) .skip
 (.exit 0))
 (.seq (.block 1 (.seq (.reg [Qm 10 8,
 Qm 5 10] [0,1,5,7,8])
 (.seq (.reg [Qm 11 1,
 Qm 12 0,
 Qm 13 5,
 Qo 14 (.ix (.t 12) (.t 13) 1),
 Qo 15 (.ld (.t 14) none),
 Qo 16 (.bin .eql (.t 11) (.t 15))] [0,1,5,7,8,16])
 (.cond (.t 16) (.seq (.reg [Qm 17 5,
 Qm 4 17] [4])
 .ret)
 .skip))))
 (.reg [Qo 18 (.bin .add (.t 8) (.c (.d (.int .i64 1)))),
 Qm 8 18] [0,1,7,8]))))
def I0:C:=(.seq (.reg [Qo 4 (.mv (.c (.d (.int .i64 0))))] [0,1])
 (.seq (.seq (.reg [Qm 6 0,
 Qo 7 (.len (.t 6)),
 Qo 8 (.mv (.c (.d (.int .i64 0))))] [0,1,7,8])
 (.block 0 (.loop Lg)))
 (.seq (.reg [Qo 4 (.mv (.c (.d (.int .i64 (-1)))))] [4])
 .ret)))
noncomputable def D0:Cx:=⟨Tryz.prog,101,Tryz.f101,19,[],[],[.t 4]⟩
theorem Fq:Good D0:=⟨Tryz.func101,by kernel_rfl⟩
theorem NY:D0.rs=[.t 4]:=rfl
theorem OA (hl:args.length≤19) (h:Run D0 K [.code I0] (BK args) E σ):AK Tryz.prog 101 args σ K:=
 AX (cx:=D0) (code:=Tryz.f101.body.getD .skip) Fq (by kernel_rfl) Tryz.ntmps101 hl (AY D0 _ (B0 I0) _ [] (by kernel_rfl)) h
def Hl:C:=(.seq (.reg [Qo 4 (.mv (.c (.d (.bool false))))] [0,1])
 (.seq (.reg [Qm 5 0,
 Qm 6 1,
 Qo 7 (.call 132 [(.t 5),(.t 6)]),
 Qo 8 (.bin .geq (.t 7) (.c (.d (.int .i64 0)))),
 Qm 4 8] [4])
 .ret))
noncomputable def DF:Cx:=⟨Tryz.prog,102,Tryz.f102,9,[],[],[.t 4]⟩
theorem F5:Good DF:=⟨Tryz.func102,by kernel_rfl⟩
theorem Me:DF.rs=[.t 4]:=rfl
theorem Hw (hl:args.length≤9) (h:Run DF K [.code Hl] (BK args) E σ):AK Tryz.prog 102 args σ K:=
 AX (cx:=DF) (code:=Tryz.f102.body.getD .skip) F5 (by kernel_rfl) Tryz.ntmps102 hl (AY DF _ (B0 Hl) _ [] (by kernel_rfl)) h
def I9:C:=(.seq (.reg [Qo 9 (.bin .lss (.t 8) (.t 7))] [0,1,7,8,9])
 (.seq (.cond (.t 9) .skip
 (.exit 0))
 (.seq (.block 1 (.seq (.reg [Qm 10 8,
 Qm 5 10] [0,1,5,7,8])
 (.seq (.reg [Qm 11 1,
 Qm 12 0,
 Qm 13 5,
 Qo 14 (.ix (.t 12) (.t 13) 3),
 Qo 15 (.ld (.t 14) (some 3)),
 Qo 16 (.FY (.t 11) [(.t 15)])] [0,1,5,7,8,16])
 (.cond (.t 16) (.seq (.reg [Qm 17 5,
 Qm 4 17] [4])
 .ret)
 .skip))))
 (.reg [Qo 18 (.bin .add (.t 8) (.c (.d (.int .i64 1)))),
 Qm 8 18] [0,1,7,8]))))
def Fz:C:=(.seq (.reg [Qo 4 (.mv (.c (.d (.int .i64 0))))] [0,1])
 (.seq (.seq (.reg [Qm 6 0,
 Qo 7 (.len (.t 6)),
 Qo 8 (.mv (.c (.d (.int .i64 0))))] [0,1,7,8])
 (.block 0 (.loop I9)))
 (.seq (.reg [Qo 4 (.mv (.c (.d (.int .i64 (-1)))))] [4])
 .ret)))
noncomputable def CW:Cx:=⟨Tryz.prog,129,Tryz.f129,19,[],[],[.t 4]⟩
theorem Cq:Good CW:=⟨Tryz.func129,by kernel_rfl⟩
theorem Jn:CW.rs=[.t 4]:=rfl
theorem KR (hl:args.length≤19) (h:Run CW K [.code Fz] (BK args) E σ):AK Tryz.prog 129 args σ K:=
 AX (cx:=CW) (code:=Tryz.f129.body.getD .skip) Cq (by kernel_rfl) Tryz.ntmps129 hl (AY CW _ (B0 Fz) _ [] (by kernel_rfl)) h
def H3:C:=(.seq (.reg [Qo 2 (.box (.t 0) false),
 Qo 3 (.mv (.c (.d (.bool false))))] [1,2])
 (.seq (.reg [Qo 4 (.fld (.t 2) 0),
 Qo 5 (.ldl (.t 4) none),
 Qo 6 (.ld (.t 1) none),
 Qo 7 (.bin .eql (.t 5) (.t 6)),
 Qm 3 7] [3])
 .ret))
noncomputable def Co:Cx:=⟨Tryz.prog,130,Tryz.f130,8,[300005],[],[.t 3]⟩
theorem H7:Good Co:=⟨Tryz.func130,by kernel_rfl⟩
theorem Lw:Co.rs=[.t 3]:=rfl
theorem M2 (hl:args.length≤8) (h:Run Co K [.code H3] (BK args) E σ):AK Tryz.prog 130 args σ K:=
 AX (cx:=Co) (code:=Tryz.f130.body.getD .skip) H7 (by kernel_rfl) Tryz.ntmps130 hl (AY Co _ (B0 H3) _ [] (by kernel_rfl)) h
def Fx:C:=(.seq (.reg [Qo 4 (.mv (.c (.d (.bool false))))] [0,1])
 (.seq (.reg [Qm 5 1,
 Qm 6 0,
 Qo 7 (.nck (.t 6)),
 Qo 8 (.fld (.t 7) 1),
 Qo 9 (.fld (.t 8) 1),
 Qo 10 (.ld (.t 9) none),
 Qo 11 (.call 158 [(.t 5),(.t 10),(.c (.fn 159 [] []))]),
 Qm 4 11] [4])
 .ret))
noncomputable def CV:Cx:=⟨Tryz.prog,131,Tryz.f131,12,[],[],[.t 4]⟩
theorem GB:Good CV:=⟨Tryz.func131,by kernel_rfl⟩
theorem Jm:CV.rs=[.t 4]:=rfl
theorem KQ (hl:args.length≤12) (h:Run CV K [.code Fx] (BK args) E σ):AK Tryz.prog 131 args σ K:=
 AX (cx:=CV) (code:=Tryz.f131.body.getD .skip) GB (by kernel_rfl) Tryz.ntmps131 hl (AY CV _ (B0 Fx) _ [] (by kernel_rfl)) h
def Mz:C:=(.seq (.reg [Qo 9 (.bin .lss (.t 8) (.t 7))] [0,1,7,8,9])
 (.seq (.cond (.t 9) .skip
 (.exit 0))
 (.seq (.block 1 (.seq (.reg [Qm 10 8,
 Qm 5 10] [0,1,5,7,8])
 (.seq (.reg [Qm 11 1,
 Qm 12 0,
 Qm 13 5,
 Qo 14 (.ix (.t 12) (.t 13) 1),
 Qo 15 (.ld (.t 14) none),
 Qo 16 (.fQ .eql (.t 11) (.t 15))] [0,1,5,7,8,16])
 (.cond (.t 16) (.seq (.reg [Qm 17 5,
 Qm 4 17] [4])
 .ret)
 .skip))))
 (.reg [Qo 18 (.bin .add (.t 8) (.c (.d (.int .i64 1)))),
 Qm 8 18] [0,1,7,8]))))
def Jx:C:=(.seq (.reg [Qo 4 (.mv (.c (.d (.int .i64 0))))] [0,1])
 (.seq (.seq (.reg [Qm 6 0,
 Qo 7 (.len (.t 6)),
 Qo 8 (.mv (.c (.d (.int .i64 0))))] [0,1,7,8])
 (.block 0 (.loop Mz)))
 (.seq (.reg [Qo 4 (.mv (.c (.d (.int .i64 (-1)))))] [4])
 .ret)))
noncomputable def EM:Cx:=⟨Tryz.prog,132,Tryz.f132,19,[],[],[.t 4]⟩
theorem Es:Good EM:=⟨Tryz.func132,by kernel_rfl⟩
theorem PD:EM.rs=[.t 4]:=rfl
theorem KC (hl:args.length≤19) (h:Run EM K [.code Jx] (BK args) E σ):AK Tryz.prog 132 args σ K:=
 AX (cx:=EM) (code:=Tryz.f132.body.getD .skip) Es (by kernel_rfl) Tryz.ntmps132 hl (AY EM _ (B0 Jx) _ [] (by kernel_rfl)) h
def Jc:C:=(.seq (.reg [Qo 18 (.bin .lss (.t 17) (.t 16))] [1,2,15,16,17,18])
 (.seq (.cond (.t 18) .skip
 (.exit 0))
 (.seq (.block 1 (.seq (.reg [Qm 19 17,
 Qo 20 (.ix (.t 15) (.t 17) 3),
 Qo 21 (.ld (.t 20) (some 3)),
 Qo 8 (.al [(.d (.int .i64 0)),(.d (.str [])),.AU] false),
 Qm 7 19,
 ⟨none,.st (.t 8) (.t 21) 3,none⟩] [1,2,7,8,15,16,17])
 (.seq (.reg [Qm 22 1,
 Qm 23 7,
 Qo 24 (.ix (.t 22) (.t 23) 1),
 Qo 25 (.ld (.t 24) none),
 Qm 9 25] [1,2,8,9,15,16,17])
 (.seq (.reg [Qm 26 2,
 Qo 27 (.ldl (.t 8) (some 3)),
 Qm 28 9,
 Qo 29 (.FY (.t 26) [(.t 27),(.t 28)]),
 Qo 30 (.un .not (.t 29))] [1,2,15,16,17,30])
 (.cond (.t 30) (.seq (.reg [Qo 6 (.mv (.c (.d (.bool false))))] [6])
 .ret)
 .skip)))))
 (.reg [Qo 31 (.bin .add (.t 17) (.c (.d (.int .i64 1)))),
 Qm 17 31] [1,2,15,16,17]))))
def Gk:C:=(.seq (.reg [Qo 6 (.mv (.c (.d (.bool false))))] [0,1,2])
 (.seq (.seq (.reg [Qm 10 0,
 Qo 11 (.len (.t 10)),
 Qm 12 1,
 Qo 13 (.len (.t 12)),
 Qo 14 (.bin .neq (.t 11) (.t 13))] [0,1,2,14])
 (.cond (.t 14) (.seq (.reg [Qo 6 (.mv (.c (.d (.bool false))))] [6])
 .ret)
 .skip))
 (.seq (.seq (.reg [Qm 15 0,
 Qo 16 (.len (.t 15)),
 Qo 17 (.mv (.c (.d (.int .i64 0))))] [1,2,15,16,17])
 (.block 0 (.loop Jc)))
 (.seq (.reg [Qo 6 (.mv (.c (.d (.bool true))))] [6])
 .ret))))
noncomputable def C9:Cx:=⟨Tryz.prog,158,Tryz.f158,32,[300027],[],[.t 6]⟩
theorem DU:Good C9:=⟨Tryz.func158,by kernel_rfl⟩
theorem Kt:C9.rs=[.t 6]:=rfl
theorem LL (hl:args.length≤32) (h:Run C9 K [.code Gk] (BK args) E σ):AK Tryz.prog 158 args σ K:=
 AX (cx:=C9) (code:=Tryz.f158.body.getD .skip) DU (by kernel_rfl) Tryz.ntmps158 hl (AY C9 _ (B0 Gk) _ [] (by kernel_rfl)) h
def FW:C:=(.seq (.reg [Qo 2 (.box (.t 0) false),
 Qo 4 (.mv (.c (.d (.bool false))))] [1,2])
 (.seq (.reg [Qo 5 (.fld (.t 2) 0),
 Qo 6 (.ldl (.t 5) none),
 Qo 7 (.bin .eql (.t 6) (.c (.d (.int .i64 4)))),
 Qm 8 7,
 ⟨some 9,.fld (.t 2) 1,some (8,true)⟩,
 ⟨some 10,.ldl (.t 9) none,some (8,true)⟩,
 ⟨some 11,.mv (.t 1),some (8,true)⟩,
 ⟨some 12,.bin .eql (.t 10) (.t 11),some (8,true)⟩,
 Qo 13 (.pick (.t 8) (.t 12) (.c (.d (.bool false)))),
 Qm 4 13] [4])
 .ret))
noncomputable def By:Cx:=⟨Tryz.prog,159,Tryz.f159,14,[300006,300010],[],[.t 4]⟩
theorem FZ:Good By:=⟨Tryz.func159,by kernel_rfl⟩
theorem FG:By.rs=[.t 4]:=rfl
theorem JV (hl:args.length≤14) (h:Run By K [.code FW] (BK args) E σ):AK Tryz.prog 159 args σ K:=
 AX (cx:=By) (code:=Tryz.f159.body.getD .skip) FZ (by kernel_rfl) Tryz.ntmps159 hl (AY By _ (B0 FW) _ [] (by kernel_rfl)) h
attribute [go_sem] PA UB Vo Ss Sr PC Rt Pn QZ Ru NW G6 OE IU Po OG OH LP LR PB OF NX LQ NY Me Jn Lw Jm PD Kt FG
end Go.Ab
