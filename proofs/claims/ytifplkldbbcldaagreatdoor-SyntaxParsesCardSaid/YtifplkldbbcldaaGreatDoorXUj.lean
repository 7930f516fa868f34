/- Valid programs, as the reference looks at them. The parser: declarations, programs, Parse. Conditions: none. -/
import Derived.Test.YtifplkldbbcldaaGreatDoorXUg
set_option linter.unusedSimpArgs false
set_option linter.unusedVariables false
set_option maxRecDepth 4000
set_option maxHeartbeats 8000000
open Nat renaming le_refl→A4,zero_add→Bd,le_trans→Ay
open List renaming length_map→AJ,map_cons→AB,map_nil→AE,take_of_length_le→A8,mem_of_getElem?→Aa,length_cons→AG,length_nil→AI,takeWhile_cons→Mb,mem_append→Bb,mem_singleton→JC,length_drop→Ah,length_pos_iff→A5,length_append→AA,map_append→Ax
open Bool renaming eq_iff_iff→Ds,not_eq_true'→CZ,true_and→Bg
open Except.ok renaming injEq→HK
open Prod.mk renaming injEq→Ba
namespace Go.Ab
open Go.Proofs
set_option maxHeartbeats 4000000 in
theorem aI (ds:List DE) (fs:List FE) (σ σ3:AK) (j:Nat) (hle:σ.le σ3) (hb:σ3.blk j=some [.d (.int .i64 600)]) (hsj:σ.blk j=none) (hres:DM ⟨ds,fs⟩=(fs.foldlM RJ 600).isSome) (hf24:fs.length≤24):
 Run Kq (fun v σ'=>v= .d (.bool (DM ⟨ds,fs⟩))∧σ'=σ) [.code (.loop UY),.blk 6,.code (.seq (.reg [⟨some 2,.mv (.c (.d (.bool true))),none⟩] [2]) .ret)] (put 1 (.lp 1 0) (put 7 (.gp j 0) (put 8 (.d (.int .i64 0)) U))) (Aq 1 [.d (.sl (ds.map DE.enc)),.d (.sl (fs.map FE.enc))] E) σ3:=by
 refine Run.BU ?_
 refine Run.y8 (σ':=σ3.AH j [.d (.int .i64 (Gw 600))]) (JA hb) ?_
 refine Run.BZ ((fun (a1:AV) (a7:AV)=>fun (y:Nat×Nat)=>put 1 a1 (put 7 a7 (put 8 (.d (.int .i64 y.1)) U))) _ _) (fun _=>Aq 1 [.d (.sl (ds.map DE.enc)),.d (.sl (fs.map FE.enc))] E) (fun y=>σ3.AH j [.d (.int .i64 (Gw y.2))])
  (fun y=>y.1≤fs.length∧y.2≤600∧(fs.take y.1).foldlM RJ 600=some y.2) (fun y=>fs.length - y.1) ?_ (0,600) ⟨by simp,by simp,rfl⟩
 rintro ⟨i,q⟩ ⟨hi,hq,hok⟩ ih
 simp only at hi hq hok
 have hσ:∀z:Int,σ.le (σ3.AH j [.d (.int .i64 z)]):=fun z=>vG hle hsj
 by_cases hlt:i < fs.length
 · obtain ⟨x,hx⟩:=CF hlt
   have he:=Bq (enc:=FE.enc) hx
   have hw1:=BV (show i+1≤9000000000000000000 by omega)
   have hnm:=DU x.name 1 (σ3.AH j [.d (.int .i64 (Gw q))])
   rw [show HJ 1 x.name=EE x.name from rfl] at hnm
   have hps:=Iz x.params true (σ3.AH j [.d (.int .i64 (Gw q))])
   rw [SS] at hps
   have hc:=Y1 j 40 q (A4 _) hq x.body (σ3.AH j [.d (.int .i64 (Gw q))]) (by simp only [AZ,if_true])
   rw [show ((40:Nat):Int)=40 from rfl] at hc
   have hno:RJ q x=none→fs.foldlM RJ 600=none:=fun h=>K6 hok hx h
   have hyes:∀r,RJ q x=some r→(fs.take (i+1)).foldlM RJ 600=some r:=fun r h=>by rw [K7 hok hx,h]
   have hvf:RJ q x=if EE x.name&&(decide (x.params.length≤6)&&x.params.all EE) then vEx 40 q x.body else none:=by
    unfold RJ Xn;rw [Bool.and_assoc]
   generalize (decide (x.params.length≤6)&&x.params.all EE)=bp at hps hvf
   cases h1:EE x.name with
   |false=>
    rw [h1] at hnm hvf
    obtain ⟨nm,ps,o,n,u,ns,ks,al⟩:=x
    simp only [FE.enc,Ex.AS] at he hnm
    (repeat' (first|refine ctQ rfl ?_|((first|refine rgQ mxQ ?_|refine cdQ ?_|(refine Run.A2 DQ (σ2:=σ) (hσ _) ?_)|refine AD.det (hnm) ?_)<;>try simp -implicitDefEqProofs only [B1 hlt,he,AJ,go_sem])|fail))
    rw [hres,hno hvf];rfl
   |true=>
   rw [h1] at hnm
   cases bp with
   |false=>
    rw [h1] at hvf
    obtain ⟨nm,ps,o,n,u,ns,ks,al⟩:=x
    simp only [FE.enc,Ex.AS] at he hnm hps
    (repeat' (first|refine ctQ rfl ?_|((first|refine rgQ mxQ ?_|refine cdQ ?_|(refine Run.A2 DQ (σ2:=σ) (hσ _) ?_)|refine AD.det (hnm) ?_|refine AD.det (hps) ?_)<;>try simp -implicitDefEqProofs only [B1 hlt,he,AJ,go_sem])|fail))
    rw [hres,hno hvf];rfl
   |true=>
   rw [h1] at hvf
   cases hv:vEx 40 q x.body with
   |some r=>
    have hr:=TY _ _ _ _ hv
    rw [hv] at hvf
    have hc:=VXQ.yes hc hv
    have hs:=hyes r hvf
    obtain ⟨nm,ps,o,n,u,ns,ks,al⟩:=x
    simp only [FE.enc,Ex.AS,exA,AB,AE] at he hnm hps hc
    (repeat' (first|refine ctQ rfl ?_|((first|refine rgQ mxQ ?_|refine cdQ ?_|(refine AD.mk rfl hc ?_;rintro _ _ ⟨rfl,rfl⟩)|refine AD.det (hnm) ?_|refine AD.det (hps) ?_)<;>try simp -implicitDefEqProofs only [B1 hlt,he,hw1,AJ,go_sem])|fail))
    exact ih (i+1,r) ⟨by simp only;omega,by simp only;omega,hs⟩ (by simp only;omega)
   |none=>
    rw [hv] at hvf
    have hc:=VXQ.no hc hv
    obtain ⟨nm,ps,o,n,u,ns,ks,al⟩:=x
    simp only [FE.enc,Ex.AS,exA,AB,AE] at he hnm hps hc
    (repeat' (first|refine ctQ rfl ?_|((first|refine rgQ mxQ ?_|refine cdQ ?_|(refine AD.mk rfl hc ?_;rintro _ _ ⟨rfl,z,rfl⟩)|(refine Run.A2 DQ (σ2:=σ) (hσ _) ?_)|refine AD.det (hnm) ?_|refine AD.det (hps) ?_)<;>try simp -implicitDefEqProofs only [B1 hlt,he,AJ,go_sem])|fail))
    rw [hres,hno hvf];rfl
 · rw [A8 (by omega)] at hok
   (repeat' (first|refine ctQ rfl ?_|((first|refine rgQ mxQ ?_|refine cdQ ?_|(refine Run.A2 DQ (σ2:=σ) (hσ _) ?_))<;>try simp -implicitDefEqProofs only [Ff hlt,AJ,go_sem])|fail))
   rw [hres,hok];rfl
set_option maxHeartbeats 4000000 in
theorem jT (p:Pg) (σ:AK) (h:∀d∈p.data,gT d):AP Tryz.prog 20 [pgA p] σ (fun v σ'=>v= .d (.bool (DM p))∧σ'=σ):=by
 obtain ⟨ds,fs⟩:=p
 refine lZ (by simp) ?_
 rw [Ar,pgA]
 simp only [Pg.enc,AB,AE] at h ⊢
 have h12:decide ((12:Int) < (ds.length:Int))=!decide (ds.length≤12):=gtN _ 12
 have h24:decide ((24:Int) < (fs.length:Int))=!decide (fs.length≤24):=gtN _ 24
 by_cases hd:ds.length≤12
 case neg=>
  (repeat' (first|refine ctQ rfl ?_|((first|refine rgQ mxQ ?_|refine cdQ ?_|refine Run.A2 DQ (AK.le_refl _) ?_)<;>try simp -implicitDefEqProofs only [AJ,h12,decide_eq_false hd,go_sem])|fail))
  simp [DM,hd]
 by_cases hf:fs.length≤24
 case neg=>
  (repeat' (first|refine ctQ rfl ?_|((first|refine rgQ mxQ ?_|refine cdQ ?_|refine Run.A2 DQ (AK.le_refl _) ?_)<;>try simp -implicitDefEqProofs only [AJ,h12,decide_eq_true hd,h24,decide_eq_false hf,go_sem])|fail))
  simp [DM,hf]
 have hres:DM ⟨ds,fs⟩=(ds.all JY&&(fs.foldlM RJ 600).isSome):=by simp [DM,hd,hf]
 have hbad:∀d∈ds,JY d=false→DM ⟨ds,fs⟩=false:=fun d hm hb=>by
  rw [hres,List.all_eq_false.2 ⟨d,hm,by simp [hb]⟩];rfl
 (repeat' (first|refine ctQ rfl ?_|((first|refine rgQ mxQ ?_|refine cdQ ?_)<;>try simp -implicitDefEqProofs only [AJ,h12,decide_eq_true hd,h24,decide_eq_true hf,go_sem])|fail))
 refine Run.BU ?_
 refine Run.BZ ((fun (a1:AV)=>fun (i:Nat)=>put 1 a1 (put 3 (.d (.int .i64 i)) U)) _) (fun _=>Aq 1 [.d (.sl (ds.map DE.enc)),.d (.sl (fs.map FE.enc))] E) (fun _=>σ) (fun i=>i≤ds.length∧(ds.take i).all JY=true) (fun i=>ds.length - i) ?_ 0 ⟨by simp,by simp⟩
 rintro i ⟨hi,hok⟩ ih
 by_cases hlt:i < ds.length
 · obtain ⟨x,hx⟩:=CF hlt
   have hxm:=Aa hx
   have he:=Bq (enc:=DE.enc) hx
   have hw1:=BV (show i+1≤9000000000000000000 by omega)
   have hxs:=h x hxm
   have hbx:=hbad x hxm
   have hs:=fun hp=>Kv (p:=JY) hok hx hp
   have hnm:=DU x.name 2 σ
   rw [show HJ 2 x.name=upperB x.name from rfl] at hnm
   have hbs:=Iz x.vars true σ
   rw [SS] at hbs
   have h8:decide ((8:Int) < (x.cons.length:Int))=!decide (x.cons.length≤8):=gtN _ 8
   have hl1:decide ((x.cons.length:Int) < 1)=!decide (1≤x.cons.length):=by
    rw [Ds];simp only [decide_eq_true_eq,CZ,decide_eq_false_iff_not];omega
   have hdx:JY x=(((upperB x.name&&(decide (x.vars.length≤6)&&x.vars.all EE))&&(decide (1≤x.cons.length)&&decide (x.cons.length≤8)))&&x.cons.all Vg):=by
    simp [JY,Bool.and_assoc]
   obtain ⟨nm,vs,cs⟩:=x
   simp only [DE.enc] at he hnm hbs h8 hl1 hdx hxs
   cases hA:upperB nm with
   |false=>
    rw [hA] at hnm hdx
    (repeat' (first|refine ctQ rfl ?_|((first|refine rgQ mxQ ?_|refine cdQ ?_|refine Run.A2 DQ (AK.le_refl _) ?_|refine AD.det (hnm) ?_)<;>try simp -implicitDefEqProofs only [B1 hlt,he,AJ,go_sem])|fail))
    rw [hbx hdx]
   |true=>
   rw [hA] at hnm
   cases hB:(decide (vs.length≤6)&&vs.all EE) with
   |false=>
    rw [hB] at hbs
    rw [hA,hB] at hdx
    (repeat' (first|refine ctQ rfl ?_|((first|refine rgQ mxQ ?_|refine cdQ ?_|refine Run.A2 DQ (AK.le_refl _) ?_|refine AD.det (hnm) ?_|refine AD.det (hbs) ?_)<;>try simp -implicitDefEqProofs only [B1 hlt,he,AJ,go_sem])|fail))
    rw [hbx hdx]
   |true=>
   rw [hB] at hbs
   by_cases hC:1≤cs.length
   case neg=>
    rw [decide_eq_false hC] at hl1 hdx
    (repeat' (first|refine ctQ rfl ?_|((first|refine rgQ mxQ ?_|refine cdQ ?_|refine Run.A2 DQ (AK.le_refl _) ?_|refine AD.det (hnm) ?_|refine AD.det (hbs) ?_)<;>try simp -implicitDefEqProofs only [B1 hlt,he,AJ,hl1,go_sem])|fail))
    rw [hbx (by rw [hdx];simp)]
   rw [decide_eq_true hC] at hl1
   by_cases hD:cs.length≤8
   case neg=>
    rw [decide_eq_false hD] at h8 hdx
    (repeat' (first|refine ctQ rfl ?_|((first|refine rgQ mxQ ?_|refine cdQ ?_|refine Run.A2 DQ (AK.le_refl _) ?_|refine AD.det (hnm) ?_|refine AD.det (hbs) ?_)<;>try simp -implicitDefEqProofs only [B1 hlt,he,AJ,hl1,h8,go_sem])|fail))
    rw [hbx (by rw [hdx];simp)]
   rw [decide_eq_true hD] at h8
   rw [hA,hB,decide_eq_true hC,decide_eq_true hD] at hdx
   simp only [Bool.and_self,Bg] at hdx
   rw [hdx] at hbx hs
   (repeat' (first|refine ctQ rfl ?_|((first|refine rgQ mxQ ?_|refine cdQ ?_|refine AD.det (hnm) ?_|refine AD.det (hbs) ?_)<;>try simp -implicitDefEqProofs only [B1 hlt,he,AJ,hl1,h8,go_sem])|fail))
   refine Run.BU ?_
   refine Run.BZ ((fun (a1:AV) (a3:AV) (a4:AV)=>fun (k:Nat)=>put 1 a1 (put 3 a3 (put 4 a4 (put 5 (.d (.int .i64 k)) U)))) _ _ _) (fun _=>Aq 1 [.d (.sl (ds.map DE.enc)),.d (.sl (fs.map FE.enc))] (Aq 4 [.d (.str nm),.d (.sl (vs.map Br)),.d (.sl (cs.map CE.enc))] E)) (fun _=>σ) (fun k=>k≤cs.length∧(cs.take k).all Vg=true) (fun k=>cs.length - k) ?_ 0 ⟨by simp,by simp⟩
   rintro k ⟨hk,hokc⟩ ih2
   by_cases hkl:k < cs.length
   · obtain ⟨c,hc⟩:=CF hkl
     have hcm:=Aa hc
     have hec:=Bq (enc:=CE.enc) hc
     have hwk:=BV (show k+1≤9000000000000000000 by omega)
     have hcs:=hxs c hcm
     have hbc:Vg c=false→DM ⟨ds,fs⟩=false:=fun hb=>hbx (List.all_eq_false.2 ⟨c,hcm,by simp [hb]⟩)
     have hsc:=fun hp=>Kv (p:=Vg) hokc hc hp
     have hcn:=DU c.name 2 σ
     rw [show HJ 2 c.name=upperB c.name from rfl] at hcn
     have h6:decide ((6:Int) < (c.args.length:Int))=!decide (c.args.length≤6):=gtN _ 6
     have hcx:Vg c=(upperB c.name&&decide (c.args.length≤6)&&c.args.all (Cq 40)):=rfl
     obtain ⟨cn,ar⟩:=c
     simp only [CE.enc] at hec hcn h6 hcx hcs
     cases hE:upperB cn with
     |false=>
      rw [hE] at hcn hcx
      (repeat' (first|refine ctQ rfl ?_|((first|refine rgQ mxQ ?_|refine cdQ ?_|refine Run.A2 DQ (AK.le_refl _) ?_|refine AD.det (hcn) ?_)<;>try simp -implicitDefEqProofs only [B1 hkl,hec,AJ,go_sem])|fail))
      rw [hbc hcx]
     |true=>
     rw [hE] at hcn
     by_cases hF:ar.length≤6
     case neg=>
      rw [decide_eq_false hF] at h6 hcx
      (repeat' (first|refine ctQ rfl ?_|((first|refine rgQ mxQ ?_|refine cdQ ?_|refine Run.A2 DQ (AK.le_refl _) ?_|refine AD.det (hcn) ?_)<;>try simp -implicitDefEqProofs only [B1 hkl,hec,AJ,h6,go_sem])|fail))
      rw [hbc (by rw [hcx];simp)]
     rw [decide_eq_true hF] at h6
     rw [hE,decide_eq_true hF] at hcx
     simp only [Bool.and_self,Bg] at hcx
     rw [hcx] at hbc hsc
     (repeat' (first|refine ctQ rfl ?_|((first|refine rgQ mxQ ?_|refine cdQ ?_|refine AD.det (hcn) ?_)<;>try simp -implicitDefEqProofs only [B1 hkl,hec,AJ,h6,go_sem])|fail))
     refine Run.BU ?_
     refine Run.BZ ((fun (a1:AV) (a3:AV) (a4:AV) (a5:AV)=>fun (a:Nat)=>put 1 a1 (put 3 a3 (put 4 a4 (put 5 a5 (put 6 (.d (.int .i64 a)) U))))) _ _ _ _) (fun _=>Aq 1 [.d (.sl (ds.map DE.enc)),.d (.sl (fs.map FE.enc))] (Aq 4 [.d (.str nm),.d (.sl (vs.map Br)),.d (.sl (cs.map CE.enc))] E)) (fun _=>σ) (fun a=>a≤ar.length∧(ar.take a).all (Cq 40)=true) (fun a=>ar.length - a) ?_ 0 ⟨by simp,by simp⟩
     rintro a ⟨ha,hoka⟩ ih3
     by_cases hal:a < ar.length
     · obtain ⟨t,ht⟩:=CF hal
       have htm:=Aa ht
       have het:=Bq (enc:=TE.enc) ht
       have hwa:=BV (show a+1≤9000000000000000000 by omega)
       have hv:=Y2 40 t σ (A4 _) (hcs t htm)
       rw [show ((40:Nat):Int)=40 from rfl] at hv
       cases hp:Cq 40 t with
       |true=>
        rw [hp] at hv
        obtain ⟨tk,tn,tl⟩:=t
        simp only [TE.AS,teA,AB,AE] at het hv
        (repeat' (first|refine ctQ rfl ?_|((first|refine rgQ mxQ ?_|refine cdQ ?_|refine AD.det (hv) ?_)<;>try simp -implicitDefEqProofs only [B1 hal,hec,het,hwa,AJ,go_sem])|fail))
        exact ih3 (a+1) ⟨by omega,Kv hoka ht hp⟩ (by omega)
       |false=>
        rw [hp] at hv
        obtain ⟨tk,tn,tl⟩:=t
        simp only [TE.AS,teA,AB,AE] at het hv
        (repeat' (first|refine ctQ rfl ?_|((first|refine rgQ mxQ ?_|refine cdQ ?_|refine Run.A2 DQ (AK.le_refl _) ?_|refine AD.det (hv) ?_)<;>try simp -implicitDefEqProofs only [B1 hal,hec,het,AJ,go_sem])|fail))
        rw [hbc (ZO ht hp)]
     · rw [A8 (by omega)] at hoka
       (repeat' (first|refine ctQ rfl ?_|((first|refine rgQ mxQ ?_|refine cdQ ?_)<;>try simp -implicitDefEqProofs only [Ff hal,hec,hwk,AJ,go_sem])|fail))
       exact ih2 (k+1) ⟨by omega,hsc hoka⟩ (by omega)
   · rw [A8 (by omega)] at hokc
     (repeat' (first|refine ctQ rfl ?_|((first|refine rgQ mxQ ?_|refine cdQ ?_)<;>try simp -implicitDefEqProofs only [Ff hkl,hw1,AJ,go_sem])|fail))
     exact ih (i+1) ⟨by omega,hs hokc⟩ (by omega)
 · rw [A8 (by omega)] at hok
   rw [hok,Bg] at hres
   clear ih
   (repeat' (first|refine ctQ rfl ?_|((first|refine rgQ mxQ ?_|refine cdQ ?_)<;>try simp -implicitDefEqProofs only [Ff hlt,AJ,go_sem])|fail))
   intro j hj
   obtain ⟨hle3,hb⟩:=ACE (z:=[.d (.int .i64 0)]) (x:=([AV.d (.int .i64 0)].length,3)) hj
   simp only [AG,AI,Bd] at hle3 hb
   generalize (σ.AH j [.d (.int .i64 0)]).HI j (1,3)=σ3 at hle3 hb ⊢
   simp -implicitDefEqProofs only [hb,go_sem]
   (repeat' (first|refine ctQ rfl ?_|((first|refine rgQ mxQ ?_|refine cdQ ?_)<;>try simp -implicitDefEqProofs only [go_sem])|fail))
   exact aI ds fs σ (σ3.AH j [.d (.int .i64 600)]) j (vG hle3 hj.1) (by simp only [AZ,if_true]) hj.1 hres hf
end Go.Ab
namespace Go.Ab
open Go.Proofs
theorem xA {s:Str} {k:Int} {t:Str} (h:FK s= .ok (k,t)) (hl:s.length≤20000) (hk:k=3):Zw t:=by
 match s,h with
 |b::r,h=>
  simp only [FK] at h
  split at h
  · split at h
    · cases h
    · split at h
      · cases h;omega
      · split at h<;>(cases h;omega)
  · split at h
    · rename_i hd
      split at h
      · cases h
      · split at h
        · rename_i hv
          simp only [HK,Ba] at h
          obtain ⟨_,rfl⟩:=h
          refine .inr ⟨?_,tN,hv,Ay (Eo _ _) hl⟩
          rw [Mb,if_pos (show Da Gd b=true from hd)];simp
        · cases h
    · split at h
      · cases h
      · cases h;omega
theorem ZA:∀(n:Nat) (rest:Str) (i:Nat) (acc:List Tok),rest.length≤20000→NOk acc→(EG n rest i acc).2.2=0→NOk (EG n rest i acc).1
 |0,rest,i,acc,_,_,_=>fun t ht=>by cases ht
 |n+1,[],i,acc,_,ha,_=>fun t ht hk=>by
  rcases Bb.1 ht with ht|ht
  · exact ha t ht hk
  · rw [JC] at ht;subst ht;cases hk
 |n+1,b::r,i,acc,hl,ha,h=>by
  rw [EG] at h ⊢
  split at h
  · rename_i hb
    rw [if_pos hb]
    exact ZA n r (i+1) acc (by simp at hl;omega) ha h
  · rename_i hb
    rw [if_neg hb]
    split at h
    · rename_i hc
      rw [if_pos hc]
      exact ZA n _ _ acc (by rw [Ah];omega) ha h
    · rename_i hc
      rw [if_neg hc]
      cases hs:FK (b::r) with
      |error e=>
       rw [hs] at h
       simp only at h
       rcases Pm hs with rfl|rfl<;>cases h
      |ok x=>
       obtain ⟨k,t⟩:=x
       rw [hs] at h
       simp only at h ⊢
       refine ZA n _ _ _ (by rw [Ah];omega) (fun u hu hk=>?_) h
       rcases Bb.1 hu with hu|hu
       · exact ha u hu hk
       · rw [JC] at hu;subst hu;exact xA hs hl hk
theorem eZ {s:Str} (h:(Au s).2.2=0):NOk (Au s).1:=by
 unfold Au at h ⊢
 split at h
 · cases h
 · rename_i hl
   rw [if_neg hl]
   exact ZA _ s 0 [] (by omega) (fun t ht=>by cases ht) h
theorem ACS (i:Nat) (L:List Tok):PC 129 [.gp i 0] i L Af jI ceA:=by
 intro σ s0 g0 h0 l0 b0
 refine Tt (by simp) ?_
 rw [Ar]
 simp only [jI,tyR,run_bind,run_pure,ceA,CE.enc,AB,AE]
 (have c0:=(TX i L Af) σ s0 g0 h0 (by omega) b0;have h1:=h0.run (Dx);have l1:=PM.le (Dx) h0.wf;generalize (Dx).run s0=y at c0 h1 l1 ⊢;obtain ⟨x0,s1⟩:=y;simp only at c0 h1 l1 ⊢;have b1:(σ.AH i (psA L s1)).blk i=some (psA L s1):=AX)
 (have c1:=((Je i L Af Zh (xX i L Af)).pc.mono (Nat.le_succ Af)) (σ.AH i (psA L s1)) s1 g0 h1 (by omega) b1;rw [AN] at c1;have h2:=h1.run (If (GK Af));have l2:=PM.le (If (GK Af)) h1.wf;generalize (If (GK Af)).run s1=y at c1 h2 l2 ⊢;obtain ⟨x1,s2⟩:=y;simp only at c1 h2 l2 ⊢;have b2:(σ.AH i (psA L s2)).blk i=some (psA L s2):=AX)
 (repeat' (first|refine ctQ rfl ?_|((first|refine rgQ mxQ ?_|refine cdQ ?_|refine Run.A2 M3 (AK.le_refl _) ?_|(refine AD.upd c0 ?_)|(refine AD.upd c1 ?_))<;>try simp -implicitDefEqProofs only [go_sem])|fail))
theorem yU (i:Nat) (L:List Tok):PC 66 [.gp i 0] i L Af Uf deA:=by
 intro σ s0 g0 h0 l0 b0
 refine Sj (by simp) ?_
 rw [Ar]
 simp only [Uf,run_bind,run_pure,deA,DE.enc,AB,AE]
 (have c0:=(TX i L Af) σ s0 g0 h0 (by omega) b0;have h1:=h0.run (Dx);have l1:=PM.le (Dx) h0.wf;generalize (Dx).run s0=y at c0 h1 l1 ⊢;obtain ⟨x0,s1⟩:=y;simp only at c0 h1 l1 ⊢;have b1:(σ.AH i (psA L s1)).blk i=some (psA L s1):=AX)
 (have c1:=((PZ i L Af fT (Q3 i L Af)).pc.mono (Nat.le_succ Af)) (σ.AH i (psA L s1)) s1 g0 h1 (by omega) b1;rw [AN] at c1;have h2:=h1.run (If E3);have l2:=PM.le (If E3) h1.wf;generalize (If E3).run s1=y at c1 h2 l2 ⊢;obtain ⟨x1,s2⟩:=y;simp only at c1 h2 l2 ⊢;have b2:(σ.AH i (psA L s2)).blk i=some (psA L s2):=AX)
 (have c2:=(DP i L Af [61] (by decide)) (σ.AH i (psA L s2)) s2 g0 h2 (by omega) b2;rw [AN] at c2;have h3:=h2.run (PM.exp [61] (by decide));have l3:=PM.le (PM.exp [61] (by decide)) h2.wf;generalize (PM.exp [61] (by decide)).run s2=y at c2 h3 l3 ⊢;obtain ⟨x2,s3⟩:=y;simp only at c2 h3 l3 ⊢;have b3:(σ.AH i (psA L s3)).blk i=some (psA L s3):=AX)
 (have c3:=(Sx i L Af AC0 (ACS i L) [124] (by decide)).pc (σ.AH i (psA L s3)) s3 g0 h3 (by omega) b3;rw [AN] at c3;have h4:=h3.run (items jI [124] (by decide));have l4:=PM.le (items jI [124] (by decide)) h3.wf;generalize (items jI [124] (by decide)).run s3=y at c3 h4 l4 ⊢;obtain ⟨x3,s4⟩:=y;simp only at c3 h4 l4 ⊢;have b4:(σ.AH i (psA L s4)).blk i=some (psA L s4):=AX)
 (have c4:=(DP i L Af [59] (by decide)) (σ.AH i (psA L s4)) s4 g0 h4 (by omega) b4;rw [AN] at c4;have h5:=h4.run (PM.exp [59] (by decide));have l5:=PM.le (PM.exp [59] (by decide)) h4.wf;generalize (PM.exp [59] (by decide)).run s4=y at c4 h5 l5 ⊢;obtain ⟨x4,s5⟩:=y;simp only at c4 h5 l5 ⊢;have b5:(σ.AH i (psA L s5)).blk i=some (psA L s5):=AX)
 (repeat' (first|refine ctQ rfl ?_|((first|refine rgQ mxQ ?_|refine cdQ ?_|refine Run.A2 LZ (AK.le_refl _) ?_|(refine AD.upd c0 ?_)|(refine AD.upd c1 ?_)|(refine AD.upd c2 ?_)|(refine AD.upd c3 ?_)|(refine AD.upd c4 ?_))<;>try simp -implicitDefEqProofs only [go_sem])|fail))
theorem ACX (i:Nat) {L:List Tok} (hN:NOk L):PC 67 [.gp i 0] i L Af YZ feA:=by
 intro σ s0 g0 h0 l0 b0
 refine Tu (by simp) ?_
 rw [Ar]
 simp only [YZ,exR,run_bind,run_pure]
 (have c0:=(Q3 i L Af) σ s0 g0 h0 (by omega) b0;have h1:=h0.run (E3);have l1:=PM.le (E3) h0.wf;generalize (E3).run s0=y at c0 h1 l1 ⊢;obtain ⟨x0,s1⟩:=y;simp only at c0 h1 l1 ⊢;have b1:(σ.AH i (psA L s1)).blk i=some (psA L s1):=AX)
 (have c1:=(DP i L Af [40] (by decide)) (σ.AH i (psA L s1)) s1 g0 h1 (by omega) b1;rw [AN] at c1;have h2:=h1.run (PM.exp [40] (by decide));have l2:=PM.le (PM.exp [40] (by decide)) h1.wf;generalize (PM.exp [40] (by decide)).run s1=y at c1 h2 l2 ⊢;obtain ⟨x1,s2⟩:=y;simp only at c1 h2 l2 ⊢;have b2:(σ.AH i (psA L s2)).blk i=some (psA L s2):=AX)
 (have c2:=(PB i L Af fT (Q3 i L Af)).pc (σ.AH i (psA L s2)) s2 g0 h2 (by omega) b2;rw [AN] at c2;have h3:=h2.run (closed E3);have l3:=PM.le (closed E3) h2.wf;generalize (closed E3).run s2=y at c2 h3 l3 ⊢;obtain ⟨x2,s3⟩:=y;simp only at c2 h3 l3 ⊢;have b3:(σ.AH i (psA L s3)).blk i=some (psA L s3):=AX)
 (have c3:=(DP i L Af [61] (by decide)) (σ.AH i (psA L s3)) s3 g0 h3 (by omega) b3;rw [AN] at c3;have h4:=h3.run (PM.exp [61] (by decide));have l4:=PM.le (PM.exp [61] (by decide)) h3.wf;generalize (PM.exp [61] (by decide)).run s3=y at c3 h4 l4 ⊢;obtain ⟨x3,s4⟩:=y;simp only at c3 h4 l4 ⊢;have b4:(σ.AH i (psA L s4)).blk i=some (psA L s4):=AX)
 (have c4:=(oS i hN Af) (σ.AH i (psA L s4)) s4 g0 h4 (by omega) b4;rw [AN] at c4;have h5:=h4.run (C0 Af);have l5:=PM.le (C0 Af) h4.wf;generalize (C0 Af).run s4=y at c4 h5 l5 ⊢;obtain ⟨x4,s5⟩:=y;simp only at c4 h5 l5 ⊢;have b5:(σ.AH i (psA L s5)).blk i=some (psA L s5):=AX;obtain ⟨o4,n4,u4,ns4,ks4,al4⟩:=x4;simp only [exA,Ex.AS,AB,AE] at c4 ⊢)
 (have c5:=(DP i L Af [59] (by decide)) (σ.AH i (psA L s5)) s5 g0 h5 (by omega) b5;rw [AN] at c5;have h6:=h5.run (PM.exp [59] (by decide));have l6:=PM.le (PM.exp [59] (by decide)) h5.wf;generalize (PM.exp [59] (by decide)).run s5=y at c5 h6 l6 ⊢;obtain ⟨x5,s6⟩:=y;simp only at c5 h6 l6 ⊢;have b6:(σ.AH i (psA L s6)).blk i=some (psA L s6):=AX)
 simp only [feA,FE.enc,Ex.AS,AB,AE]
 (repeat' (first|refine ctQ rfl ?_|((first|refine rgQ mxQ ?_|refine cdQ ?_|refine Run.A2 M4 (AK.le_refl _) ?_|(refine AD.upd c0 ?_)|(refine AD.upd c1 ?_)|(refine AD.upd c2 ?_)|(refine AD.upd c3 ?_)|(refine AD.upd c4 ?_)|(refine AD.upd c5 ?_))<;>try simp -implicitDefEqProofs only [go_sem])|fail))
theorem ZG.of {σ τ:AK} {i e z:Nat} {rows:List (List DV)} {v:AV} (hg:ZG σ) (h:Cg (σ.DB i) e z rows v τ):ZG τ:=by
 obtain ⟨te,pe,he⟩:=hg
 exact ⟨te,pe,by rw [← h.le.gt];exact he⟩
set_option maxHeartbeats 2000000 in
theorem nD (i:Nat) {L:List Tok} (hN:NOk L):PC 28 [.gp i 0] i L Af Lf pgA:=by
 intro σ s0 g0 h0 l0 b0
 refine PN (by simp) ?_
 rw [Ar]
 (repeat' (first|refine ctQ rfl ?_|((first|refine rgQ mxQ ?_|refine cdQ ?_)<;>try simp -implicitDefEqProofs only [go_sem])|fail))
 refine Run.BU ?_
 have hf0:=Bo
 have hl0:=h0.suf.length_le
 have hl1:=h0.len
 have hdel:(σ.DB i).le σ:=⟨fun j c hj=>by
  have:j≠i:=fun e=>by rw [e] at hj;simp [AK.DB] at hj
  simpa [AK.DB,this] using hj,fun _ h=>h,rfl,fun _ _ h=>h⟩
 refine Run.BZ (α:=PSt×List DE×List FE×Nat×AV×AV×AK) (fun _=>put 0 (.gp i 0) (put 2 (.lp 2 0) (put 3 (.lp 3 0) U))) (fun y=>Aq 2 [.AO,.AO] (Aq 3 [y.2.2.2.2.1,y.2.2.2.2.2.1] Ab.E)) (fun y=>y.2.2.2.2.2.2)
  (fun y=>POk L y.1∧y.1.r.length≤y.2.2.2.1∧y.2.1.length+y.2.2.1.length+y.1.r.length≤17000∧Cg (σ.DB i) 61 3 (y.2.1.map DE.enc) y.2.2.2.2.1 y.2.2.2.2.2.2∧Cg (σ.DB i) 66 8 (y.2.2.1.map FE.enc) y.2.2.2.2.2.1 y.2.2.2.2.2.2∧Xe y.2.2.2.2.1 y.2.2.2.2.2.1∧y.2.2.2.2.2.2.blk i=some (psA L y.1)∧(M6 y.2.2.2.1 y.2.1 y.2.2.1).run y.1=Lf.run s0) (fun y=>y.1.r.length) ?_ (s0,[],[],Af,.AO,.AO,σ)
  ⟨h0,by simp only;omega,by simp;omega,Cg.mono (Cg.nil σ _ _) hdel,Cg.mono (Cg.nil σ _ _) hdel,ZQ _,b0,rfl⟩
 rintro ⟨s2,ds,fs,q,vd,vf,τ⟩ ⟨p1,p2,p3,p4,p5,p6,p7,p8⟩ ih
 simp only at p1 p2 p3 p4 p5 p6 p7 p8
 obtain ⟨q,rfl⟩:∃m,q=m+1:=⟨q - 1,by have:=A5.2 p1.wf.ne;omega⟩
 rw [wO] at p8
 have hpk:=Q5 p1 τ p7
 have hgt:ZG τ:=g0.of p4
 have hn1:vd.DF 3=false:=p4.DF 3
 cases hk:s2.hd.kind==6 with
 |true=>
  rw [hk,if_pos rfl] at p8
  rw [← p8]
  have hne:(s2.hd.kind != 6)=false:=by unfold bne;rw [hk];rfl
  simp only [pgA,Pg.enc,AB,AE]
  have hle:=(LS.mk p4 p7:LS σ i L s2 _ _ _ _ _).le
  (repeat' (first|refine ctQ rfl ?_|((first|refine rgQ mxQ ?_|refine cdQ ?_|(refine Run.A2 It hle ?_)|refine AD.det (hpk) ?_)<;>try simp -implicitDefEqProofs only [hne,p4.cell,p5.cell,p4.plain,p5.plain,if_true,go_sem])|fail))
 |false=>
  have hne:(s2.hd.kind != 6)=true:=by unfold bne;rw [hk];rfl
  rw [hk,if_neg (by decide)] at p8
  cases t1:s2.hd.text==[100,97,116,97] with
  |true=>
   rw [t1,if_pos rfl] at p8
   have c1:=DO p1 _ τ p7 t1
   have h3:=p1.adv (t:=[100,97,116,97]) (by decide) t1
   have l3:=BW p1.wf
   generalize s2.adv=s3 at c1 h3 l3 p8
   have c2:=yU i L (τ.AH i (psA L s3)) s3 hgt h3 (by omega) AX
   rw [AN] at c2
   have h4:=h3.run Uf
   have l4:=PM.le Uf h3.wf
   generalize Uf.run s3=y at c2 h4 l4 p8
   obtain ⟨d,s4⟩:=y
   simp only at c2 h4 l4 p8
   obtain ⟨dn,dv,dc⟩:=d
   simp only [deA,DE.enc,AB,AE] at c2
   have q4:=p4.Yg (Gc σ i) (psA L s4)
   have q5:=p5.Yg (Gc σ i) (psA L s4)
   (repeat' (first|refine ctQ rfl ?_|((first|refine rgQ mxQ ?_|refine cdQ ?_|(refine AD.upd c1 ?_)|(refine AD.upd c2 ?_)|refine AD.det (hpk) ?_)<;>try simp -implicitDefEqProofs only [hne,p4.cell,if_true,go_sem])|fail))
   (apply JJ.z7 (cx:=Bu) q4;rfl;simp;(simp only [AJ,AG,AI];omega);decide;intro v2 τ2 ho hbk hkp)
   obtain ⟨r5,r6⟩:=hkp _ _ _ _ q5 p6
   simp -implicitDefEqProofs only [ho.cells,ho.cell,if_true,go_sem]
   (repeat' (first|refine ctQ rfl ?_|((first|refine rgQ mxQ ?_|refine cdQ ?_)<;>try simp -implicitDefEqProofs only [ho.w4,go_sem])|fail))
   refine ih (s4,ds++[⟨dn,dv,dc⟩],fs,q,v2,vf,τ2) ⟨h4,by simp only;omega,by simp only [AA,AG,AI];omega,?_,r5,r6,by simp [hbk,AZ],p8⟩ (by simp only;omega)
   simp only [Ax,AB,AE,DE.enc]
   exact ho
  |false=>
  have f1:=DN p1 _ τ p7 t1
  rw [t1,if_neg (by decide)] at p8
  cases t2:s2.hd.text==[102,117,110] with
  |true=>
   rw [t2,if_pos rfl] at p8
   have c1:=DO p1 _ τ p7 t2
   have h3:=p1.adv (t:=[102,117,110]) (by decide) t2
   have l3:=BW p1.wf
   generalize s2.adv=s3 at c1 h3 l3 p8
   have c2:=ACX i hN (τ.AH i (psA L s3)) s3 hgt h3 (by omega) AX
   rw [AN] at c2
   have h4:=h3.run YZ
   have l4:=PM.le YZ h3.wf
   generalize YZ.run s3=y at c2 h4 l4 p8
   obtain ⟨d,s4⟩:=y
   simp only at c2 h4 l4 p8
   obtain ⟨fn,fp,fb⟩:=d
   obtain ⟨o0,n0,u0,ns0,ks0,al0⟩:=fb
   simp only [feA,FE.enc,Ex.AS,AB,AE] at c2
   have q4:=p4.Yg (Gc σ i) (psA L s4)
   have q5:=p5.Yg (Gc σ i) (psA L s4)
   (repeat' (first|refine ctQ rfl ?_|((first|refine rgQ mxQ ?_|refine cdQ ?_|(refine AD.upd c1 ?_)|(refine AD.upd c2 ?_)|refine AD.det (hpk) ?_|refine AD.det (f1) ?_)<;>try simp -implicitDefEqProofs only [hne,p5.cell,if_true,go_sem])|fail))
   (apply JJ.z7 (cx:=Bu) q5;rfl;simp;(simp only [AJ,AG,AI];omega);decide;intro v2 τ2 ho hbk hkp)
   obtain ⟨r5,r6⟩:=hkp _ _ _ _ q4 p6.symm
   simp -implicitDefEqProofs only [ho.cells,ho.cell,if_true,go_sem]
   (repeat' (first|refine ctQ rfl ?_|((first|refine rgQ mxQ ?_|refine cdQ ?_)<;>try simp -implicitDefEqProofs only [ho.w4,go_sem])|fail))
   refine ih (s4,ds,fs++[⟨fn,fp,.mk o0 n0 u0 ns0 ks0 al0⟩],q,vd,v2,τ2) ⟨h4,by simp only;omega,by simp only [AA,AG,AI];omega,r5,?_,r6.symm,by simp [hbk,AZ],p8⟩ (by simp only;omega)
   simp only [Ax,AB,AE,FE.enc,Ex.AS]
   exact ho
  |false=>
  have f2:=DN p1 _ τ p7 t2
  rw [t2,if_neg (by decide)] at p8
  have c1:=Vj p1 τ p7
  have h3:=p1.fail
  have l3:=iM p1.wf
  have h2':=ADX p1.wf hk
  have q4:=p4.Yg (Gc σ i) (psA L s2.fail)
  have q5:=p5.Yg (Gc σ i) (psA L s2.fail)
  (repeat' (first|refine ctQ rfl ?_|((first|refine rgQ mxQ ?_|refine cdQ ?_|(refine AD.upd c1 ?_)|refine AD.det (hpk) ?_|refine AD.det (f1) ?_|refine AD.det (f2) ?_)<;>try simp -implicitDefEqProofs only [hne,if_true,go_sem])|fail))
  exact ih (s2.fail,ds,fs,q,vd,vf,_) ⟨h3,by simp only;omega,by simp only;omega,q4,q5,p6,by simp [AZ],p8⟩ (by simp only;omega)
end Go.Ab
