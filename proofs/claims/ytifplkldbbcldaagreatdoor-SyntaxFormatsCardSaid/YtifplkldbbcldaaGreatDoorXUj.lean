/- Valid programs, as the reference looks at them. The parser: declarations, programs, Parse. Conditions: none. -/
import Derived.Test.YtifplkldbbcldaaGreatDoorXPk
set_option linter.unusedSimpArgs false
set_option linter.unusedVariables false
set_option maxRecDepth 4000
set_option maxHeartbeats 8000000
open Nat renaming le_refl→A8,zero_add→B9,le_trans→BC
open List renaming length_map→AE,map_cons→AG,map_nil→AH,take_of_length_le→A6,mem_of_getElem?→Aa,length_cons→AB,length_nil→AD,takeWhile_cons→F9,mem_append→BY,mem_singleton→Dy,length_drop→Ao,length_pos_iff→Aj,length_append→AA,map_append→Bg
open Bool renaming eq_iff_iff→Dt,not_eq_true'→CV,true_and→BK
open Except.ok renaming injEq→HA
open Prod.mk renaming injEq→Bc
namespace Go.Ab
open Go.Proofs
set_option maxHeartbeats 4000000 in
theorem ZU (ds:List DE) (fs:List FE) (σ σ3:AN) (j:Nat) (hle:σ.le σ3) (hb:σ3.blk j=some [.d (.int .i64 600)]) (hsj:σ.blk j=none) (hres:Cq ⟨ds,fs⟩=(fs.foldlM Pn 600).isSome) (hf24:fs.length≤24):
 Run Kl (fun v σ'=>v= .d (.bool (Cq ⟨ds,fs⟩))∧σ'=σ) [.code (.loop Tx),.blk 6,.code (.seq (.reg [⟨some 2,.mv (.c (.d (.bool true))),none⟩] [2]) .ret)] (put 1 (.lp 1 0) (put 7 (.gp j 0) (put 8 (.d (.int .i64 0)) U))) (BZ 1 [.d (.sl (ds.map DE.enc)),.d (.sl (fs.map FE.enc))] E) σ3:=by
 refine Run.B3 ?_
 refine Run.xS (σ':=σ3.AK j [.d (.int .i64 (Gp 600))]) (Iv hb) ?_
 refine Run.B6 ((fun (a1:AV) (a7:AV)=>fun (y:Nat×Nat)=>put 1 a1 (put 7 a7 (put 8 (.d (.int .i64 y.1)) U))) _ _) (fun _=>BZ 1 [.d (.sl (ds.map DE.enc)),.d (.sl (fs.map FE.enc))] E) (fun y=>σ3.AK j [.d (.int .i64 (Gp y.2))])
  (fun y=>y.1≤fs.length∧y.2≤600∧(fs.take y.1).foldlM Pn 600=some y.2) (fun y=>fs.length - y.1) ?_ (0,600) ⟨by simp,by simp,rfl⟩
 rintro ⟨i,q⟩ ⟨hi,hq,hok⟩ ih
 simp only at hi hq hok
 have hσ:∀z:Int,σ.le (σ3.AK j [.d (.int .i64 z)]):=fun z=>ZA hle hsj
 by_cases hlt:i < fs.length
 · obtain ⟨x,hx⟩:=Bu hlt
   have he:=Bi (enc:=FE.enc) hx
   have hw1:=BV (show i+1≤9000000000000000000 by omega)
   have hnm:=DS x.name 1 (σ3.AK j [.d (.int .i64 (Gp q))])
   rw [show GY 1 x.name=DQ x.name from rfl] at hnm
   have hps:=Iu x.params true (σ3.AK j [.d (.int .i64 (Gp q))])
   rw [Rv] at hps
   have hc:=X2 j 40 q (A8 _) hq x.body (σ3.AK j [.d (.int .i64 (Gp q))]) (by simp only [AO,if_true])
   rw [show ((40:Nat):Int)=40 from rfl] at hc
   have hno:Pn q x=none→fs.foldlM Pn 600=none:=fun h=>KZ hok hx h
   have hyes:∀r,Pn q x=some r→(fs.take (i+1)).foldlM Pn 600=some r:=fun r h=>by rw [K0 hok hx,h]
   have hvf:Pn q x=if DQ x.name&&(decide (x.params.length≤6)&&x.params.all DQ) then vEx 40 q x.body else none:=by
    unfold Pn MW;rw [Bool.and_assoc]
   generalize (decide (x.params.length≤6)&&x.params.all DQ)=bp at hps hvf
   cases h1:DQ x.name with
   |false=>
    rw [h1] at hnm hvf
    obtain ⟨nm,ps,o,n,u,ns,ks,al⟩:=x
    simp only [FE.enc,Ex.A3] at he hnm
    (repeat' (first|refine Run.ct rfl ?_|((first|refine Run.reg mixed ?_|refine Run.AJ ?_|(refine Run.A9 DO (σ2:=σ) (hσ _) ?_)|refine AI.det (hnm) ?_)<;>try simp -implicitDefEqProofs only [BQ hlt,he,AE,go_sem])|fail))
    rw [hres,hno hvf];rfl
   |true=>
   rw [h1] at hnm
   cases bp with
   |false=>
    rw [h1] at hvf
    obtain ⟨nm,ps,o,n,u,ns,ks,al⟩:=x
    simp only [FE.enc,Ex.A3] at he hnm hps
    (repeat' (first|refine Run.ct rfl ?_|((first|refine Run.reg mixed ?_|refine Run.AJ ?_|(refine Run.A9 DO (σ2:=σ) (hσ _) ?_)|refine AI.det (hnm) ?_|refine AI.det (hps) ?_)<;>try simp -implicitDefEqProofs only [BQ hlt,he,AE,go_sem])|fail))
    rw [hres,hno hvf];rfl
   |true=>
   rw [h1] at hvf
   cases hv:vEx 40 q x.body with
   |some r=>
    have hr:=TH _ _ _ _ hv
    rw [hv] at hvf
    have hc:=VXQ.yes hc hv
    have hs:=hyes r hvf
    obtain ⟨nm,ps,o,n,u,ns,ks,al⟩:=x
    simp only [FE.enc,Ex.A3,exA,AG,AH] at he hnm hps hc
    (repeat' (first|refine Run.ct rfl ?_|((first|refine Run.reg mixed ?_|refine Run.AJ ?_|(refine AI.mk rfl hc ?_;rintro _ _ ⟨rfl,rfl⟩)|refine AI.det (hnm) ?_|refine AI.det (hps) ?_)<;>try simp -implicitDefEqProofs only [BQ hlt,he,hw1,AE,go_sem])|fail))
    exact ih (i+1,r) ⟨by simp only;omega,by simp only;omega,hs⟩ (by simp only;omega)
   |none=>
    rw [hv] at hvf
    have hc:=VXQ.no hc hv
    obtain ⟨nm,ps,o,n,u,ns,ks,al⟩:=x
    simp only [FE.enc,Ex.A3,exA,AG,AH] at he hnm hps hc
    (repeat' (first|refine Run.ct rfl ?_|((first|refine Run.reg mixed ?_|refine Run.AJ ?_|(refine AI.mk rfl hc ?_;rintro _ _ ⟨rfl,z,rfl⟩)|(refine Run.A9 DO (σ2:=σ) (hσ _) ?_)|refine AI.det (hnm) ?_|refine AI.det (hps) ?_)<;>try simp -implicitDefEqProofs only [BQ hlt,he,hw1,AE,go_sem])|fail))
    rw [hres,hno hvf];rfl
 · rw [A6 (by omega)] at hok
   (repeat' (first|refine Run.ct rfl ?_|((first|refine Run.reg mixed ?_|refine Run.AJ ?_|(refine Run.A9 DO (σ2:=σ) (hσ _) ?_))<;>try simp -implicitDefEqProofs only [DA hlt,AE,go_sem])|fail))
   rw [hres,hok];rfl
set_option maxHeartbeats 4000000 in
theorem iU (p:Pg) (σ:AN) (h:∀d∈p.data,fH d):AQ Tryz.prog 20 [pgA p] σ (fun v σ'=>v= .d (.bool (Cq p))∧σ'=σ):=by
 obtain ⟨ds,fs⟩:=p
 refine k8 (by simp) ?_
 rw [Ax,pgA]
 simp only [Pg.enc,AG,AH] at h ⊢
 have h12:decide ((12:Int) < (ds.length:Int))=!decide (ds.length≤12):=gtN _ 12
 have h24:decide ((24:Int) < (fs.length:Int))=!decide (fs.length≤24):=gtN _ 24
 by_cases hd:ds.length≤12
 case neg=>
  (repeat' (first|refine Run.ct rfl ?_|((first|refine Run.reg mixed ?_|refine Run.AJ ?_|refine Run.A9 DO (AN.le_refl _) ?_)<;>try simp -implicitDefEqProofs only [AE,h12,decide_eq_false hd,go_sem])|fail))
  simp [Cq,hd]
 by_cases hf:fs.length≤24
 case neg=>
  (repeat' (first|refine Run.ct rfl ?_|((first|refine Run.reg mixed ?_|refine Run.AJ ?_|refine Run.A9 DO (AN.le_refl _) ?_)<;>try simp -implicitDefEqProofs only [AE,h12,decide_eq_true hd,h24,decide_eq_false hf,go_sem])|fail))
  simp [Cq,hf]
 have hres:Cq ⟨ds,fs⟩=(ds.all G8&&(fs.foldlM Pn 600).isSome):=by simp [Cq,hd,hf]
 have hbad:∀d∈ds,G8 d=false→Cq ⟨ds,fs⟩=false:=fun d hm hb=>by
  rw [hres,List.all_eq_false.2 ⟨d,hm,by simp [hb]⟩];rfl
 (repeat' (first|refine Run.ct rfl ?_|((first|refine Run.reg mixed ?_|refine Run.AJ ?_)<;>try simp -implicitDefEqProofs only [AE,h12,decide_eq_true hd,h24,decide_eq_true hf,go_sem])|fail))
 refine Run.B3 ?_
 refine Run.B6 ((fun (a1:AV)=>fun (i:Nat)=>put 1 a1 (put 3 (.d (.int .i64 i)) U)) _) (fun _=>BZ 1 [.d (.sl (ds.map DE.enc)),.d (.sl (fs.map FE.enc))] E) (fun _=>σ) (fun i=>i≤ds.length∧(ds.take i).all G8=true) (fun i=>ds.length - i) ?_ 0 ⟨by simp,by simp⟩
 rintro i ⟨hi,hok⟩ ih
 by_cases hlt:i < ds.length
 · obtain ⟨x,hx⟩:=Bu hlt
   have hxm:=Aa hx
   have he:=Bi (enc:=DE.enc) hx
   have hw1:=BV (show i+1≤9000000000000000000 by omega)
   have hxs:=h x hxm
   have hbx:=hbad x hxm
   have hs:=fun hp=>Kp (p:=G8) hok hx hp
   have hnm:=DS x.name 2 σ
   rw [show GY 2 x.name=upperB x.name from rfl] at hnm
   have hbs:=Iu x.vars true σ
   rw [Rv] at hbs
   have h8:decide ((8:Int) < (x.cons.length:Int))=!decide (x.cons.length≤8):=gtN _ 8
   have hl1:decide ((x.cons.length:Int) < 1)=!decide (1≤x.cons.length):=by
    rw [Dt];simp only [decide_eq_true_eq,CV,decide_eq_false_iff_not];omega
   have hdx:G8 x=(((upperB x.name&&(decide (x.vars.length≤6)&&x.vars.all DQ))&&(decide (1≤x.cons.length)&&decide (x.cons.length≤8)))&&x.cons.all QC):=by
    simp [G8,Bool.and_assoc]
   obtain ⟨nm,vs,cs⟩:=x
   simp only [DE.enc] at he hnm hbs h8 hl1 hdx hxs
   cases hA:upperB nm with
   |false=>
    rw [hA] at hnm hdx
    (repeat' (first|refine Run.ct rfl ?_|((first|refine Run.reg mixed ?_|refine Run.AJ ?_|refine Run.A9 DO (AN.le_refl _) ?_|refine AI.det (hnm) ?_)<;>try simp -implicitDefEqProofs only [BQ hlt,he,AE,go_sem])|fail))
    rw [hbx hdx]
   |true=>
   rw [hA] at hnm
   cases hB:(decide (vs.length≤6)&&vs.all DQ) with
   |false=>
    rw [hB] at hbs
    rw [hA,hB] at hdx
    (repeat' (first|refine Run.ct rfl ?_|((first|refine Run.reg mixed ?_|refine Run.AJ ?_|refine Run.A9 DO (AN.le_refl _) ?_|refine AI.det (hnm) ?_|refine AI.det (hbs) ?_)<;>try simp -implicitDefEqProofs only [BQ hlt,he,AE,go_sem])|fail))
    rw [hbx hdx]
   |true=>
   rw [hB] at hbs
   by_cases hC:1≤cs.length
   case neg=>
    rw [decide_eq_false hC] at hl1 hdx
    (repeat' (first|refine Run.ct rfl ?_|((first|refine Run.reg mixed ?_|refine Run.AJ ?_|refine Run.A9 DO (AN.le_refl _) ?_|refine AI.det (hnm) ?_|refine AI.det (hbs) ?_)<;>try simp -implicitDefEqProofs only [BQ hlt,he,AE,hl1,go_sem])|fail))
    rw [hbx (by rw [hdx];simp)]
   rw [decide_eq_true hC] at hl1
   by_cases hD:cs.length≤8
   case neg=>
    rw [decide_eq_false hD] at h8 hdx
    (repeat' (first|refine Run.ct rfl ?_|((first|refine Run.reg mixed ?_|refine Run.AJ ?_|refine Run.A9 DO (AN.le_refl _) ?_|refine AI.det (hnm) ?_|refine AI.det (hbs) ?_)<;>try simp -implicitDefEqProofs only [BQ hlt,he,AE,hl1,h8,go_sem])|fail))
    rw [hbx (by rw [hdx];simp)]
   rw [decide_eq_true hD] at h8
   rw [hA,hB,decide_eq_true hC,decide_eq_true hD] at hdx
   simp only [Bool.and_self,BK] at hdx
   rw [hdx] at hbx hs
   (repeat' (first|refine Run.ct rfl ?_|((first|refine Run.reg mixed ?_|refine Run.AJ ?_|refine AI.det (hnm) ?_|refine AI.det (hbs) ?_)<;>try simp -implicitDefEqProofs only [BQ hlt,he,AE,hl1,h8,go_sem])|fail))
   refine Run.B3 ?_
   refine Run.B6 ((fun (a1:AV) (a3:AV) (a4:AV)=>fun (k:Nat)=>put 1 a1 (put 3 a3 (put 4 a4 (put 5 (.d (.int .i64 k)) U)))) _ _ _) (fun _=>BZ 1 [.d (.sl (ds.map DE.enc)),.d (.sl (fs.map FE.enc))] (BZ 4 [.d (.str nm),.d (.sl (vs.map BM)),.d (.sl (cs.map CE.enc))] E)) (fun _=>σ) (fun k=>k≤cs.length∧(cs.take k).all QC=true) (fun k=>cs.length - k) ?_ 0 ⟨by simp,by simp⟩
   rintro k ⟨hk,hokc⟩ ih2
   by_cases hkl:k < cs.length
   · obtain ⟨c,hc⟩:=Bu hkl
     have hcm:=Aa hc
     have hec:=Bi (enc:=CE.enc) hc
     have hwk:=BV (show k+1≤9000000000000000000 by omega)
     have hcs:=hxs c hcm
     have hbc:QC c=false→Cq ⟨ds,fs⟩=false:=fun hb=>hbx (List.all_eq_false.2 ⟨c,hcm,by simp [hb]⟩)
     have hsc:=fun hp=>Kp (p:=QC) hokc hc hp
     have hcn:=DS c.name 2 σ
     rw [show GY 2 c.name=upperB c.name from rfl] at hcn
     have h6:decide ((6:Int) < (c.args.length:Int))=!decide (c.args.length≤6):=gtN _ 6
     have hcx:QC c=(upperB c.name&&decide (c.args.length≤6)&&c.args.all (Bf 40)):=rfl
     obtain ⟨cn,ar⟩:=c
     simp only [CE.enc] at hec hcn h6 hcx hcs
     cases hE:upperB cn with
     |false=>
      rw [hE] at hcn hcx
      (repeat' (first|refine Run.ct rfl ?_|((first|refine Run.reg mixed ?_|refine Run.AJ ?_|refine Run.A9 DO (AN.le_refl _) ?_|refine AI.det (hcn) ?_)<;>try simp -implicitDefEqProofs only [BQ hkl,hec,AE,go_sem])|fail))
      rw [hbc hcx]
     |true=>
     rw [hE] at hcn
     by_cases hF:ar.length≤6
     case neg=>
      rw [decide_eq_false hF] at h6 hcx
      (repeat' (first|refine Run.ct rfl ?_|((first|refine Run.reg mixed ?_|refine Run.AJ ?_|refine Run.A9 DO (AN.le_refl _) ?_|refine AI.det (hcn) ?_)<;>try simp -implicitDefEqProofs only [BQ hkl,hec,AE,h6,go_sem])|fail))
      rw [hbc (by rw [hcx];simp)]
     rw [decide_eq_true hF] at h6
     rw [hE,decide_eq_true hF] at hcx
     simp only [Bool.and_self,BK] at hcx
     rw [hcx] at hbc hsc
     (repeat' (first|refine Run.ct rfl ?_|((first|refine Run.reg mixed ?_|refine Run.AJ ?_|refine AI.det (hcn) ?_)<;>try simp -implicitDefEqProofs only [BQ hkl,hec,AE,h6,go_sem])|fail))
     refine Run.B3 ?_
     refine Run.B6 ((fun (a1:AV) (a3:AV) (a4:AV) (a5:AV)=>fun (a:Nat)=>put 1 a1 (put 3 a3 (put 4 a4 (put 5 a5 (put 6 (.d (.int .i64 a)) U))))) _ _ _ _) (fun _=>BZ 1 [.d (.sl (ds.map DE.enc)),.d (.sl (fs.map FE.enc))] (BZ 4 [.d (.str nm),.d (.sl (vs.map BM)),.d (.sl (cs.map CE.enc))] E)) (fun _=>σ) (fun a=>a≤ar.length∧(ar.take a).all (Bf 40)=true) (fun a=>ar.length - a) ?_ 0 ⟨by simp,by simp⟩
     rintro a ⟨ha,hoka⟩ ih3
     by_cases hal:a < ar.length
     · obtain ⟨t,ht⟩:=Bu hal
       have htm:=Aa ht
       have het:=Bi (enc:=TE.enc) ht
       have hwa:=BV (show a+1≤9000000000000000000 by omega)
       have hv:=X3 40 t σ (A8 _) (hcs t htm)
       rw [show ((40:Nat):Int)=40 from rfl] at hv
       cases hp:Bf 40 t with
       |true=>
        rw [hp] at hv
        obtain ⟨tk,tn,tl⟩:=t
        simp only [TE.A3,teA,AG,AH] at het hv
        (repeat' (first|refine Run.ct rfl ?_|((first|refine Run.reg mixed ?_|refine Run.AJ ?_|refine AI.det (hv) ?_)<;>try simp -implicitDefEqProofs only [BQ hal,hec,het,hwa,AE,go_sem])|fail))
        exact ih3 (a+1) ⟨by omega,Kp hoka ht hp⟩ (by omega)
       |false=>
        rw [hp] at hv
        obtain ⟨tk,tn,tl⟩:=t
        simp only [TE.A3,teA,AG,AH] at het hv
        (repeat' (first|refine Run.ct rfl ?_|((first|refine Run.reg mixed ?_|refine Run.AJ ?_|refine Run.A9 DO (AN.le_refl _) ?_|refine AI.det (hv) ?_)<;>try simp -implicitDefEqProofs only [BQ hal,hec,het,hwa,AE,go_sem])|fail))
        rw [hbc (YD ht hp)]
     · rw [A6 (by omega)] at hoka
       (repeat' (first|refine Run.ct rfl ?_|((first|refine Run.reg mixed ?_|refine Run.AJ ?_)<;>try simp -implicitDefEqProofs only [DA hal,hec,hwk,AE,go_sem])|fail))
       exact ih2 (k+1) ⟨by omega,hsc hoka⟩ (by omega)
   · rw [A6 (by omega)] at hokc
     (repeat' (first|refine Run.ct rfl ?_|((first|refine Run.reg mixed ?_|refine Run.AJ ?_)<;>try simp -implicitDefEqProofs only [DA hkl,hw1,AE,go_sem])|fail))
     exact ih (i+1) ⟨by omega,hs hokc⟩ (by omega)
 · rw [A6 (by omega)] at hok
   rw [hok,BK] at hres
   clear ih
   (repeat' (first|refine Run.ct rfl ?_|((first|refine Run.reg mixed ?_|refine Run.AJ ?_)<;>try simp -implicitDefEqProofs only [DA hlt,AE,go_sem])|fail))
   intro j hj
   obtain ⟨hle3,hb⟩:=sP (z:=[.d (.int .i64 0)]) (x:=([AV.d (.int .i64 0)].length,3)) hj
   simp only [AB,AD,B9] at hle3 hb
   generalize (σ.AK j [.d (.int .i64 0)]).Ge j (1,3)=σ3 at hle3 hb ⊢
   simp -implicitDefEqProofs only [hb,go_sem]
   (repeat' (first|refine Run.ct rfl ?_|((first|refine Run.reg mixed ?_|refine Run.AJ ?_)<;>try simp -implicitDefEqProofs only [hb,AE,go_sem])|fail))
   exact ZU ds fs σ (σ3.AK j [.d (.int .i64 600)]) j (ZA hle3 hj.1) (by simp only [AO,if_true]) hj.1 hres hf
end Go.Ab
namespace Go.Ab
open Go.Proofs
theorem wB {s:Str} {k:Int} {t:Str} (h:De s= .ok (k,t)) (hl:s.length≤20000) (hk:k=3):iI t:=by
 match s,h with
 |b::r,h=>
  simp only [De] at h
  split at h
  · split at h
    · cases h
    · split at h
      · cases h;omega
      · split at h<;>(cases h;omega)
  · split at h
    · rename_i hd
      split at h
      · cases h
      · split at h
        · rename_i hv
          simp only [HA,Bc] at h
          obtain ⟨_,rfl⟩:=h
          refine .inr ⟨?_,sO,hv,BC (Ep _ _) hl⟩
          rw [F9,if_pos (show CT Er b=true from hd)];simp
        · cases h
    · split at h
      · cases h
      · cases h;omega
theorem Xn:∀(n:Nat) (rest:Str) (i:Nat) (acc:List Tok),rest.length≤20000→NOk acc→(D9 n rest i acc).2.2=0→NOk (D9 n rest i acc).1
 |0,rest,i,acc,_,_,_=>fun t ht=>by cases ht
 |n+1,[],i,acc,_,ha,_=>fun t ht hk=>by
  rcases BY.1 ht with ht|ht
  · exact ha t ht hk
  · rw [Dy] at ht;subst ht;cases hk
 |n+1,b::r,i,acc,hl,ha,h=>by
  rw [D9] at h ⊢
  split at h
  · rename_i hb
    rw [if_pos hb]
    exact Xn n r (i+1) acc (by simp at hl;omega) ha h
  · rename_i hb
    rw [if_neg hb]
    split at h
    · rename_i hc
      rw [if_pos hc]
      exact Xn n _ _ acc (by rw [Ao];omega) ha h
    · rename_i hc
      rw [if_neg hc]
      cases hs:De (b::r) with
      |error e=>
       rw [hs] at h
       simp only at h
       rcases Pd hs with rfl|rfl<;>cases h
      |ok x=>
       obtain ⟨k,t⟩:=x
       rw [hs] at h
       simp only at h ⊢
       refine Xn n _ _ _ (by rw [Ao];omega) (fun u hu hk=>?_) h
       rcases BY.1 hu with hu|hu
       · exact ha u hu hk
       · rw [Dy] at hu;subst hu;exact wB hs hl hk
theorem rW {s:Str} (h:(BN s).2.2=0):NOk (BN s).1:=by
 unfold BN at h ⊢
 split at h
 · cases h
 · rename_i hl
   rw [if_neg hl]
   exact Xn _ s 0 [] (by omega) (fun t ht=>by cases ht) h
theorem ABD (i:Nat) (L:List Tok):PC 129 [.gp i 0] i L BL iK ceA:=by
 intro σ s0 g0 h0 l0 b0
 refine Tb (by simp) ?_
 rw [Ax]
 simp only [iK,tyR,run_bind,run_pure,ceA,CE.enc,AG,AH]
 (have c0:=(TG i L BL) σ s0 g0 h0 (by omega) b0;have h1:=h0.run (F4);have l1:=PM.le (F4) h0.wf;generalize (F4).run s0=y at c0 h1 l1 ⊢;obtain ⟨x0,s1⟩:=y;simp only at c0 h1 l1 ⊢;have b1:(σ.AK i (psA L s1)).blk i=some (psA L s1):=(by rw [AO,if_pos rfl]))
 (have c1:=((Ja i L BL Yi (wP i L BL)).pc.mono (Nat.le_succ BL)) (σ.AK i (psA L s1)) s1 g0 h1 (by omega) b1;rw [A2] at c1;have h2:=h1.run (I6 (GA BL));have l2:=PM.le (I6 (GA BL)) h1.wf;generalize (I6 (GA BL)).run s1=y at c1 h2 l2 ⊢;obtain ⟨x1,s2⟩:=y;simp only at c1 h2 l2 ⊢;have b2:(σ.AK i (psA L s2)).blk i=some (psA L s2):=(by rw [AO,if_pos rfl]))
 (repeat' (first|refine Run.ct rfl ?_|((first|refine Run.reg mixed ?_|refine Run.AJ ?_|refine Run.A9 MT (AN.le_refl _) ?_|(refine AI.upd c0 ?_)|(refine AI.upd c1 ?_))<;>try simp -implicitDefEqProofs only [go_sem])|fail))
theorem xH (i:Nat) (L:List Tok):PC 66 [.gp i 0] i L BL UQ deA:=by
 intro σ s0 g0 h0 l0 b0
 refine SW (by simp) ?_
 rw [Ax]
 simp only [UQ,run_bind,run_pure,deA,DE.enc,AG,AH]
 (have c0:=(TG i L BL) σ s0 g0 h0 (by omega) b0;have h1:=h0.run (F4);have l1:=PM.le (F4) h0.wf;generalize (F4).run s0=y at c0 h1 l1 ⊢;obtain ⟨x0,s1⟩:=y;simp only at c0 h1 l1 ⊢;have b1:(σ.AK i (psA L s1)).blk i=some (psA L s1):=(by rw [AO,if_pos rfl]))
 (have c1:=((PV i L BL dV (Q3 i L BL)).pc.mono (Nat.le_succ BL)) (σ.AK i (psA L s1)) s1 g0 h1 (by omega) b1;rw [A2] at c1;have h2:=h1.run (I6 Fp);have l2:=PM.le (I6 Fp) h1.wf;generalize (I6 Fp).run s1=y at c1 h2 l2 ⊢;obtain ⟨x1,s2⟩:=y;simp only at c1 h2 l2 ⊢;have b2:(σ.AK i (psA L s2)).blk i=some (psA L s2):=(by rw [AO,if_pos rfl]))
 (have c2:=(DN i L BL [61] (by decide)) (σ.AK i (psA L s2)) s2 g0 h2 (by omega) b2;rw [A2] at c2;have h3:=h2.run (PM.exp [61] (by decide));have l3:=PM.le (PM.exp [61] (by decide)) h2.wf;generalize (PM.exp [61] (by decide)).run s2=y at c2 h3 l3 ⊢;obtain ⟨x2,s3⟩:=y;simp only at c2 h3 l3 ⊢;have b3:(σ.AK i (psA L s3)).blk i=some (psA L s3):=(by rw [AO,if_pos rfl]))
 (have c3:=(Sa i L BL ABT (ABD i L) [124] (by decide)).pc (σ.AK i (psA L s3)) s3 g0 h3 (by omega) b3;rw [A2] at c3;have h4:=h3.run (items iK [124] (by decide));have l4:=PM.le (items iK [124] (by decide)) h3.wf;generalize (items iK [124] (by decide)).run s3=y at c3 h4 l4 ⊢;obtain ⟨x3,s4⟩:=y;simp only at c3 h4 l4 ⊢;have b4:(σ.AK i (psA L s4)).blk i=some (psA L s4):=(by rw [AO,if_pos rfl]))
 (have c4:=(DN i L BL [59] (by decide)) (σ.AK i (psA L s4)) s4 g0 h4 (by omega) b4;rw [A2] at c4;have h5:=h4.run (PM.exp [59] (by decide));have l5:=PM.le (PM.exp [59] (by decide)) h4.wf;generalize (PM.exp [59] (by decide)).run s4=y at c4 h5 l5 ⊢;obtain ⟨x4,s5⟩:=y;simp only at c4 h5 l5 ⊢;have b5:(σ.AK i (psA L s5)).blk i=some (psA L s5):=(by rw [AO,if_pos rfl]))
 (repeat' (first|refine Run.ct rfl ?_|((first|refine Run.reg mixed ?_|refine Run.AJ ?_|refine Run.A9 LQ (AN.le_refl _) ?_|(refine AI.upd c0 ?_)|(refine AI.upd c1 ?_)|(refine AI.upd c2 ?_)|(refine AI.upd c3 ?_)|(refine AI.upd c4 ?_))<;>try simp -implicitDefEqProofs only [go_sem])|fail))
theorem ABP (i:Nat) {L:List Tok} (hN:NOk L):PC 67 [.gp i 0] i L BL aX feA:=by
 intro σ s0 g0 h0 l0 b0
 refine Tc (by simp) ?_
 rw [Ax]
 simp only [aX,exR,run_bind,run_pure]
 (have c0:=(Q3 i L BL) σ s0 g0 h0 (by omega) b0;have h1:=h0.run (Fp);have l1:=PM.le (Fp) h0.wf;generalize (Fp).run s0=y at c0 h1 l1 ⊢;obtain ⟨x0,s1⟩:=y;simp only at c0 h1 l1 ⊢;have b1:(σ.AK i (psA L s1)).blk i=some (psA L s1):=(by rw [AO,if_pos rfl]))
 (have c1:=(DN i L BL [40] (by decide)) (σ.AK i (psA L s1)) s1 g0 h1 (by omega) b1;rw [A2] at c1;have h2:=h1.run (PM.exp [40] (by decide));have l2:=PM.le (PM.exp [40] (by decide)) h1.wf;generalize (PM.exp [40] (by decide)).run s1=y at c1 h2 l2 ⊢;obtain ⟨x1,s2⟩:=y;simp only at c1 h2 l2 ⊢;have b2:(σ.AK i (psA L s2)).blk i=some (psA L s2):=(by rw [AO,if_pos rfl]))
 (have c2:=(Ow i L BL dV (Q3 i L BL)).pc (σ.AK i (psA L s2)) s2 g0 h2 (by omega) b2;rw [A2] at c2;have h3:=h2.run (closed Fp);have l3:=PM.le (closed Fp) h2.wf;generalize (closed Fp).run s2=y at c2 h3 l3 ⊢;obtain ⟨x2,s3⟩:=y;simp only at c2 h3 l3 ⊢;have b3:(σ.AK i (psA L s3)).blk i=some (psA L s3):=(by rw [AO,if_pos rfl]))
 (have c3:=(DN i L BL [61] (by decide)) (σ.AK i (psA L s3)) s3 g0 h3 (by omega) b3;rw [A2] at c3;have h4:=h3.run (PM.exp [61] (by decide));have l4:=PM.le (PM.exp [61] (by decide)) h3.wf;generalize (PM.exp [61] (by decide)).run s3=y at c3 h4 l4 ⊢;obtain ⟨x3,s4⟩:=y;simp only at c3 h4 l4 ⊢;have b4:(σ.AK i (psA L s4)).blk i=some (psA L s4):=(by rw [AO,if_pos rfl]))
 (have c4:=(nR i hN BL) (σ.AK i (psA L s4)) s4 g0 h4 (by omega) b4;rw [A2] at c4;have h5:=h4.run (CJ BL);have l5:=PM.le (CJ BL) h4.wf;generalize (CJ BL).run s4=y at c4 h5 l5 ⊢;obtain ⟨x4,s5⟩:=y;simp only at c4 h5 l5 ⊢;have b5:(σ.AK i (psA L s5)).blk i=some (psA L s5):=(by rw [AO,if_pos rfl]);obtain ⟨o4,n4,u4,ns4,ks4,al4⟩:=x4;simp only [exA,Ex.A3,AG,AH] at c4 ⊢)
 (have c5:=(DN i L BL [59] (by decide)) (σ.AK i (psA L s5)) s5 g0 h5 (by omega) b5;rw [A2] at c5;have h6:=h5.run (PM.exp [59] (by decide));have l6:=PM.le (PM.exp [59] (by decide)) h5.wf;generalize (PM.exp [59] (by decide)).run s5=y at c5 h6 l6 ⊢;obtain ⟨x5,s6⟩:=y;simp only at c5 h6 l6 ⊢;have b6:(σ.AK i (psA L s6)).blk i=some (psA L s6):=(by rw [AO,if_pos rfl]))
 simp only [feA,FE.enc,Ex.A3,AG,AH]
 (repeat' (first|refine Run.ct rfl ?_|((first|refine Run.reg mixed ?_|refine Run.AJ ?_|refine Run.A9 MU (AN.le_refl _) ?_|(refine AI.upd c0 ?_)|(refine AI.upd c1 ?_)|(refine AI.upd c2 ?_)|(refine AI.upd c3 ?_)|(refine AI.upd c4 ?_)|(refine AI.upd c5 ?_))<;>try simp -implicitDefEqProofs only [go_sem])|fail))
theorem Xt.of {σ τ:AN} {i e z:Nat} {rows:List (List DV)} {v:AV} (hg:Xt σ) (h:D8 (σ.DK i) e z rows v τ):Xt τ:=by
 obtain ⟨te,pe,he⟩:=hg
 exact ⟨te,pe,by rw [← h.le.gt];exact he⟩
set_option maxHeartbeats 2000000 in
theorem mD (i:Nat) {L:List Tok} (hN:NOk L):PC 28 [.gp i 0] i L BL NZ pgA:=by
 intro σ s0 g0 h0 l0 b0
 refine PI (by simp) ?_
 rw [Ax]
 (repeat' (first|refine Run.ct rfl ?_|((first|refine Run.reg mixed ?_|refine Run.AJ ?_)<;>try simp -implicitDefEqProofs only [go_sem])|fail))
 refine Run.B3 ?_
 have hf0:=Fg
 have hl0:=h0.suf.length_le
 have hl1:=h0.len
 have hdel:(σ.DK i).le σ:=⟨fun j c hj=>by
  have:j≠i:=fun e=>by rw [e] at hj;simp [AN.DK] at hj
  simpa [AN.DK,this] using hj,fun _ h=>h,rfl,fun _ _ h=>h⟩
 refine Run.B6 (α:=PSt×List DE×List FE×Nat×AV×AV×AN) (fun _=>put 0 (.gp i 0) (put 2 (.lp 2 0) (put 3 (.lp 3 0) U))) (fun y=>BZ 2 [.AX,.AX] (BZ 3 [y.2.2.2.2.1,y.2.2.2.2.2.1] Ab.E)) (fun y=>y.2.2.2.2.2.2)
  (fun y=>POk L y.1∧y.1.r.length≤y.2.2.2.1∧y.2.1.length+y.2.2.1.length+y.1.r.length≤17000∧D8 (σ.DK i) 61 3 (y.2.1.map DE.enc) y.2.2.2.2.1 y.2.2.2.2.2.2∧D8 (σ.DK i) 66 8 (y.2.2.1.map FE.enc) y.2.2.2.2.2.1 y.2.2.2.2.2.2∧Xr y.2.2.2.2.1 y.2.2.2.2.2.1∧y.2.2.2.2.2.2.blk i=some (psA L y.1)∧(MY y.2.2.2.1 y.2.1 y.2.2.1).run y.1=NZ.run s0) (fun y=>y.1.r.length) ?_ (s0,[],[],BL,.AX,.AX,σ)
  ⟨h0,by simp only;omega,by simp;omega,D8.mono (D8.nil σ _ _) hdel,D8.mono (D8.nil σ _ _) hdel,j6 _,b0,rfl⟩
 rintro ⟨s2,ds,fs,q,vd,vf,τ⟩ ⟨p1,p2,p3,p4,p5,p6,p7,p8⟩ ih
 simp only at p1 p2 p3 p4 p5 p6 p7 p8
 obtain ⟨q,rfl⟩:∃m,q=m+1:=⟨q - 1,by have:=Aj.2 p1.wf.ne;omega⟩
 rw [vT] at p8
 have hpk:=Q5 p1 τ p7
 have hgt:Xt τ:=g0.of p4
 have hn1:vd.BJ 3=false:=p4.BJ 3
 cases hk:s2.hd.kind==6 with
 |true=>
  rw [hk,if_pos rfl] at p8
  rw [← p8]
  have hne:(s2.hd.kind != 6)=false:=by unfold bne;rw [hk];rfl
  simp only [pgA,Pg.enc,AG,AH]
  have hle:=(LS.mk p4 p7:LS σ i L s2 _ _ _ _ _).le
  (repeat' (first|refine Run.ct rfl ?_|((first|refine Run.reg mixed ?_|refine Run.AJ ?_|(refine Run.A9 Im hle ?_)|refine AI.det (hpk) ?_)<;>try simp -implicitDefEqProofs only [hne,p4.BJ,p5.BJ,p4.As,p5.As,p4.cell,p5.cell,p4.plain,p5.plain,if_true,go_sem])|fail))
 |false=>
  have hne:(s2.hd.kind != 6)=true:=by unfold bne;rw [hk];rfl
  rw [hk,if_neg (by decide)] at p8
  cases t1:s2.hd.text==[100,97,116,97] with
  |true=>
   rw [t1,if_pos rfl] at p8
   have c1:=DM p1 _ τ p7 t1
   have h3:=p1.adv (t:=[100,97,116,97]) (by decide) t1
   have l3:=B0 p1.wf
   generalize s2.adv=s3 at c1 h3 l3 p8
   have c2:=xH i L (τ.AK i (psA L s3)) s3 hgt h3 (by omega) (by rw [AO,if_pos rfl])
   rw [A2] at c2
   have h4:=h3.run UQ
   have l4:=PM.le UQ h3.wf
   generalize UQ.run s3=y at c2 h4 l4 p8
   obtain ⟨d,s4⟩:=y
   simp only at c2 h4 l4 p8
   obtain ⟨dn,dv,dc⟩:=d
   simp only [deA,DE.enc,AG,AH] at c2
   have q4:=p4.mM (NH σ i) (psA L s4)
   have q5:=p5.mM (NH σ i) (psA L s4)
   (repeat' (first|refine Run.ct rfl ?_|((first|refine Run.reg mixed ?_|refine Run.AJ ?_|(refine AI.upd c1 ?_)|(refine AI.upd c2 ?_)|refine AI.det (hpk) ?_)<;>try simp -implicitDefEqProofs only [hne,p4.BJ,p5.BJ,p4.cell,p5.cell,p4.cells,p5.cells,if_true,go_sem])|fail))
   (apply JH.ADY (cx:=Bq) q4;rfl;simp;(simp only [AE,AB,AD];omega);decide;intro v2 τ2 ho hbk hkp)
   obtain ⟨r5,r6⟩:=hkp _ _ _ _ q5 p6
   simp -implicitDefEqProofs only [ho.BJ,ho.As,ho.cells,ho.cell,p4.cell,p5.cell,if_true,go_sem]
   (repeat' (first|refine Run.ct rfl ?_|((first|refine Run.reg mixed ?_|refine Run.AJ ?_)<;>try simp -implicitDefEqProofs only [ho.BJ,ho.As,ho.cells,ho.cell,go_sem])|fail))
   refine ih (s4,ds++[⟨dn,dv,dc⟩],fs,q,v2,vf,τ2) ⟨h4,by simp only;omega,by simp only [AA,AB,AD];omega,?_,r5,r6,by simp [hbk,AO],p8⟩ (by simp only;omega)
   simp only [Bg,AG,AH,DE.enc]
   exact ho
  |false=>
  have f1:=DL p1 _ τ p7 t1
  rw [t1,if_neg (by decide)] at p8
  cases t2:s2.hd.text==[102,117,110] with
  |true=>
   rw [t2,if_pos rfl] at p8
   have c1:=DM p1 _ τ p7 t2
   have h3:=p1.adv (t:=[102,117,110]) (by decide) t2
   have l3:=B0 p1.wf
   generalize s2.adv=s3 at c1 h3 l3 p8
   have c2:=ABP i hN (τ.AK i (psA L s3)) s3 hgt h3 (by omega) (by rw [AO,if_pos rfl])
   rw [A2] at c2
   have h4:=h3.run aX
   have l4:=PM.le aX h3.wf
   generalize aX.run s3=y at c2 h4 l4 p8
   obtain ⟨d,s4⟩:=y
   simp only at c2 h4 l4 p8
   obtain ⟨fn,fp,fb⟩:=d
   obtain ⟨o0,n0,u0,ns0,ks0,al0⟩:=fb
   simp only [feA,FE.enc,Ex.A3,AG,AH] at c2
   have q4:=p4.mM (NH σ i) (psA L s4)
   have q5:=p5.mM (NH σ i) (psA L s4)
   (repeat' (first|refine Run.ct rfl ?_|((first|refine Run.reg mixed ?_|refine Run.AJ ?_|(refine AI.upd c1 ?_)|(refine AI.upd c2 ?_)|refine AI.det (hpk) ?_|refine AI.det (f1) ?_)<;>try simp -implicitDefEqProofs only [hne,p4.BJ,p5.BJ,p4.cell,p5.cell,p4.cells,p5.cells,if_true,go_sem])|fail))
   (apply JH.ADY (cx:=Bq) q5;rfl;simp;(simp only [AE,AB,AD];omega);decide;intro v2 τ2 ho hbk hkp)
   obtain ⟨r5,r6⟩:=hkp _ _ _ _ q4 p6.symm
   simp -implicitDefEqProofs only [ho.BJ,ho.As,ho.cells,ho.cell,p4.cell,p5.cell,if_true,go_sem]
   (repeat' (first|refine Run.ct rfl ?_|((first|refine Run.reg mixed ?_|refine Run.AJ ?_)<;>try simp -implicitDefEqProofs only [ho.BJ,ho.As,ho.cells,ho.cell,go_sem])|fail))
   refine ih (s4,ds,fs++[⟨fn,fp,.mk o0 n0 u0 ns0 ks0 al0⟩],q,vd,v2,τ2) ⟨h4,by simp only;omega,by simp only [AA,AB,AD];omega,r5,?_,r6.symm,by simp [hbk,AO],p8⟩ (by simp only;omega)
   simp only [Bg,AG,AH,FE.enc,Ex.A3]
   exact ho
  |false=>
  have f2:=DL p1 _ τ p7 t2
  rw [t2,if_neg (by decide)] at p8
  have c1:=V0 p1 τ p7
  have h3:=p1.fail
  have l3:=gL p1.wf
  have h2':=ACP p1.wf hk
  have q4:=p4.mM (NH σ i) (psA L s2.fail)
  have q5:=p5.mM (NH σ i) (psA L s2.fail)
  (repeat' (first|refine Run.ct rfl ?_|((first|refine Run.reg mixed ?_|refine Run.AJ ?_|(refine AI.upd c1 ?_)|refine AI.det (hpk) ?_|refine AI.det (f1) ?_|refine AI.det (f2) ?_)<;>try simp -implicitDefEqProofs only [hne,p4.BJ,p5.BJ,p4.cell,p5.cell,p4.cells,p5.cells,if_true,go_sem])|fail))
  exact ih (s2.fail,ds,fs,q,vd,vf,_) ⟨h3,by simp only;omega,by simp only;omega,q4,q5,p6,by simp [AO],p8⟩ (by simp only;omega)
end Go.Ab
