/- Several owned slices side by side. Valid programs, as the reference looks at them. The parser: declarations, programs, Parse. Conditions: none. -/
import Derived.Test.YtifplkldbbcldaaGreatDoorXPi
set_option linter.unusedSimpArgs false
set_option linter.unusedVariables false
set_option maxRecDepth 4000
set_option maxHeartbeats 8000000
open Nat renaming mul_le_mul→OQ,le_refl→A7,zero_add→B7,le_trans→Ay
open Option.some renaming injEq→AP
open List renaming length_map→AE,map_cons→AF,map_nil→AI,take_of_length_le→Ad,mem_of_getElem?→Ae,length_cons→AD,length_nil→AG,takeWhile_cons→Bg,mem_append→BV,mem_singleton→Ev,length_drop→Ag,length_pos_iff→An,length_append→AA,map_append→BU
open Bool renaming eq_iff_iff→Di,not_eq_true'→CP,true_and→BG
open Except.ok renaming injEq→Dj
open Prod.mk renaming injEq→BH
namespace Go.Ab
def jO:AV→Option Nat
 | .own t _ _ _=>some t
 |_=>none
def XC (v w:AV):Prop:=∀t,jO v=some t→jO w≠some t
theorem XC.symm {v w:AV} (h:XC v w):XC w v:=fun t h1 h2=>h t h2 h1
theorem fT (w:AV):XC .AX w:=fun t h=>by cases h
theorem E3.V2 {σ0 σ σ':AN} {e s:Nat} {rows:List (List DV)} {w:AV} (h:E3 σ0 e s rows w σ) (hle:σ0.le σ') (ht:∀t,jO w=some t→σ.tok t=true→σ'.tok t=true):E3 σ0 e s rows w σ':=by
 obtain ⟨⟨σ1,ha,hl⟩,_,h1,h2,h3,h4,h5,h6,h7⟩:=h
 refine ⟨?_,hle,h1,h2,h3,h4,h5,h6,h7⟩
 unfold Np at ha ⊢
 split at ha
 · cases ha;exact ⟨σ',rfl,hle⟩
 · rename_i t e' s' rows'
   split at ha
   · rename_i hc
     cases ha
     obtain ⟨q1,q2,q3⟩:=hc
     refine ⟨σ'.C6 t,by rw [if_pos ⟨q1,q2,ht t rfl q3⟩],⟨hle.blk,fun t' h'=>?_,hle.gt,hle.bt⟩⟩
     have hne:t'≠t:=fun e=>by
      have:=hl.tok t' h'
      simp [AN.C6,e] at this
     simp [AN.C6,hne,hle.tok t' h']
   · cases ha
 · cases ha
theorem Io.AA9 {cx:Cx} {K:Fm→Lm→AN→Prop} {F:Fm} {L:Lm} {σ σ0:AN} {d:Option Nat} {e size bytes:Nat} {s x:AV} {rows srows:List (List DV)} (ho:E3 σ0 e size rows s σ) (h2:x.rows=some srows)
 (h3:∀r∈srows,r.length=size) (h4:rows.length+srows.length≤1000000000) (hb:bytes≤10000)
 (h:∀v σ',E3 σ0 e size (rows++srows) v σ'→(∀i,σ'.blk i=σ.blk i)→(∀e2 s2 rows2 w,E3 σ0 e2 s2 rows2 w σ→XC s w→E3 σ0 e2 s2 rows2 w σ'∧XC v w)→K (Ap d v F) L σ'):Io e size bytes s x d K F L σ:=by
 obtain ⟨σ1,ha,hl⟩:=ho.app
 have hblk:∀i,σ1.blk i=σ.blk i:=fun i=>by
  unfold Np at ha
  split at ha
  · cases ha;rfl
  · split at ha
    · cases ha;rfl
    · cases ha
  · cases ha
 have htok:∀t,jO s≠some t→σ.tok t=true→σ1.tok t=true:=fun t hne ht=>by
  unfold Np at ha
  split at ha
  · cases ha;exact ht
  · rename_i ts e' s' rows'
    split at ha
    · cases ha
      have:t≠ts:=fun e=>hne (by rw [e];rfl)
      simp [AN.C6,this,ht]
    · cases ha
  · cases ha
 refine Io.mk ha h2 h3 (by simp only [maxLen];omega) ?_ (fun t ht=>h _ _ (E3.own hl ho.le ht) (fun i=>by rw [Fx];exact hblk i) (fun e2 s2 rows2 w hw hap=>?_))
 · calc (rows.length+srows.length) * bytes≤1000000000 * 10000:=OQ h4 hb
    _≤140737488355328:=by decide
 · have hwt:∀t',jO w=some t'→σ.tok t'=true:=fun t' h'=>by
    obtain ⟨_,hw1,_⟩:=hw.app
    cases w<;>simp only [jO] at h'<;>try cases h'
    simp only [Np] at hw1
    split at hw1
    · rename_i hc;exact hc.2.2
    · cases hw1
   have hown:=E3.own (e:=e) (s:=size) (rows:=rows++srows) hl ho.le ht
   refine ⟨hw.V2 hown.le (fun t' h1 h2=>?_),fun t' h1 h3=>?_⟩
   · have:=htok t' (fun e=>hap t' e h1) h2
     simp [AN.BW,this]
   · simp only [jO,AP] at h1
     subst h1
     rw [hwt _ h3] at ht;cases ht
end Go.Ab
namespace Go.Ab
open Go.Proofs
set_option maxHeartbeats 4000000 in
theorem YM (ds:List DE) (fs:List FE) (σ σ3:AN) (j:Nat) (hle:σ.le σ3) (hb:σ3.blk j=some [.d (.int .i64 600)]) (hsj:σ.blk j=none) (hres:CW ⟨ds,fs⟩=(fs.foldlM PL 600).isSome) (hf24:fs.length≤24):
 Run KV (fun v σ'=>v= .d (.bool (CW ⟨ds,fs⟩))∧σ'=σ) [.code (.loop TV),.blk 6,.code (.seq (.reg [⟨some 2,.mv (.c (.d (.bool true))),none⟩] [2]) .ret)] (put 1 (.lp 1 0) (put 7 (.gp j 0) (put 8 (.d (.int .i64 0)) U))) (B0 1 [.d (.sl (ds.map DE.enc)),.d (.sl (fs.map FE.enc))] E) σ3:=by
 refine Run.Be ?_
 refine Run.uH (σ':=σ3.AM j [.d (.int .i64 (G5 600))]) (Ia hb) ?_
 refine Run.Bn ((fun (a1:AV) (a7:AV)=>fun (y:Nat×Nat)=>put 1 a1 (put 7 a7 (put 8 (.d (.int .i64 y.1)) U))) _ _) (fun _=>B0 1 [.d (.sl (ds.map DE.enc)),.d (.sl (fs.map FE.enc))] E) (fun y=>σ3.AM j [.d (.int .i64 (G5 y.2))])
  (fun y=>y.1≤fs.length∧y.2≤600∧(fs.take y.1).foldlM PL 600=some y.2) (fun y=>fs.length - y.1) ?_ (0,600) ⟨by simp,by simp,rfl⟩
 rintro ⟨i,q⟩ ⟨hi,hq,hok⟩ ih
 simp only at hi hq hok
 have hσ:∀z:Int,σ.le (σ3.AM j [.d (.int .i64 z)]):=fun z=>qR hle hsj
 by_cases hlt:i < fs.length
 · obtain ⟨x,hx⟩:=Bw hlt
   have he:=Bh (enc:=FE.enc) hx
   have hw1:=Ba (show i+1≤9000000000000000000 by omega)
   have hnm:=DL x.name 1 (σ3.AM j [.d (.int .i64 (G5 q))])
   rw [show GH 1 x.name=D1 x.name from rfl] at hnm
   have hps:=I9 x.params true (σ3.AM j [.d (.int .i64 (G5 q))])
   rw [RR] at hps
   have hc:=Wa j 40 q (A7 _) hq x.body (σ3.AM j [.d (.int .i64 (G5 q))]) (by simp only [AO,if_true])
   rw [show ((40:Nat):Int)=40 from rfl] at hc
   have hno:PL q x=none→fs.foldlM PL 600=none:=fun h=>KB hok hx h
   have hyes:∀r,PL q x=some r→(fs.take (i+1)).foldlM PL 600=some r:=fun r h=>by rw [KC hok hx,h]
   have hvf:PL q x=if D1 x.name&&(decide (x.params.length≤6)&&x.params.all D1) then vEx 40 q x.body else none:=by
    unfold PL Mm;rw [Bool.and_assoc]
   generalize (decide (x.params.length≤6)&&x.params.all D1)=bp at hps hvf
   cases h1:D1 x.name with
   |false=>
    rw [h1] at hnm hvf
    obtain ⟨nm,ps,o,n,u,ns,ks,al⟩:=x
    simp only [FE.enc,Ex.A0] at he hnm
    (repeat' (first|refine Run.ct rfl ?_|((first|refine Run.reg mixed ?_|refine Run.AJ ?_|(refine Run.A9 DI (σ2:=σ) (hσ _) ?_)|refine AH.det (hnm) ?_)<;>try simp -implicitDefEqProofs only [BX hlt,he,AE,go_sem])|fail))
    rw [hres,hno hvf];rfl
   |true=>
   rw [h1] at hnm
   cases bp with
   |false=>
    rw [h1] at hvf
    obtain ⟨nm,ps,o,n,u,ns,ks,al⟩:=x
    simp only [FE.enc,Ex.A0] at he hnm hps
    (repeat' (first|refine Run.ct rfl ?_|((first|refine Run.reg mixed ?_|refine Run.AJ ?_|(refine Run.A9 DI (σ2:=σ) (hσ _) ?_)|refine AH.det (hnm) ?_|refine AH.det (hps) ?_)<;>try simp -implicitDefEqProofs only [BX hlt,he,AE,go_sem])|fail))
    rw [hres,hno hvf];rfl
   |true=>
   rw [h1] at hvf
   cases hv:vEx 40 q x.body with
   |some r=>
    have hr:=SX _ _ _ _ hv
    rw [hv] at hvf
    have hc:=VXQ.yes hc hv
    have hs:=hyes r hvf
    obtain ⟨nm,ps,o,n,u,ns,ks,al⟩:=x
    simp only [FE.enc,Ex.A0,exA,AF,AI] at he hnm hps hc
    (repeat' (first|refine Run.ct rfl ?_|((first|refine Run.reg mixed ?_|refine Run.AJ ?_|(refine AH.mk rfl hc ?_;rintro _ _ ⟨rfl,rfl⟩)|refine AH.det (hnm) ?_|refine AH.det (hps) ?_)<;>try simp -implicitDefEqProofs only [BX hlt,he,hw1,AE,go_sem])|fail))
    exact ih (i+1,r) ⟨by simp only;omega,by simp only;omega,hs⟩ (by simp only;omega)
   |none=>
    rw [hv] at hvf
    have hc:=VXQ.no hc hv
    obtain ⟨nm,ps,o,n,u,ns,ks,al⟩:=x
    simp only [FE.enc,Ex.A0,exA,AF,AI] at he hnm hps hc
    (repeat' (first|refine Run.ct rfl ?_|((first|refine Run.reg mixed ?_|refine Run.AJ ?_|(refine AH.mk rfl hc ?_;rintro _ _ ⟨rfl,z,rfl⟩)|(refine Run.A9 DI (σ2:=σ) (hσ _) ?_)|refine AH.det (hnm) ?_|refine AH.det (hps) ?_)<;>try simp -implicitDefEqProofs only [BX hlt,he,hw1,AE,go_sem])|fail))
    rw [hres,hno hvf];rfl
 · rw [Ad (by omega)] at hok
   (repeat' (first|refine Run.ct rfl ?_|((first|refine Run.reg mixed ?_|refine Run.AJ ?_|(refine Run.A9 DI (σ2:=σ) (hσ _) ?_))<;>try simp -implicitDefEqProofs only [F2 hlt,AE,go_sem])|fail))
   rw [hres,hok];rfl
set_option maxHeartbeats 4000000 in
theorem eN (p:Pg) (σ:AN) (h:∀d∈p.data,cD d):AQ Tryz.prog 20 [pgA p] σ (fun v σ'=>v= .d (.bool (CW p))∧σ'=σ):=by
 obtain ⟨ds,fs⟩:=p
 refine hP (by simp) ?_
 rw [BE,pgA]
 simp only [Pg.enc,AF,AI] at h ⊢
 have h12:decide ((12:Int) < (ds.length:Int))=!decide (ds.length≤12):=gtN _ 12
 have h24:decide ((24:Int) < (fs.length:Int))=!decide (fs.length≤24):=gtN _ 24
 by_cases hd:ds.length≤12
 case neg=>
  (repeat' (first|refine Run.ct rfl ?_|((first|refine Run.reg mixed ?_|refine Run.AJ ?_|refine Run.A9 DI (AN.le_refl _) ?_)<;>try simp -implicitDefEqProofs only [AE,h12,decide_eq_false hd,go_sem])|fail))
  simp [CW,hd]
 by_cases hf:fs.length≤24
 case neg=>
  (repeat' (first|refine Run.ct rfl ?_|((first|refine Run.reg mixed ?_|refine Run.AJ ?_|refine Run.A9 DI (AN.le_refl _) ?_)<;>try simp -implicitDefEqProofs only [AE,h12,decide_eq_true hd,h24,decide_eq_false hf,go_sem])|fail))
  simp [CW,hf]
 have hres:CW ⟨ds,fs⟩=(ds.all GP&&(fs.foldlM PL 600).isSome):=by simp [CW,hd,hf]
 have hbad:∀d∈ds,GP d=false→CW ⟨ds,fs⟩=false:=fun d hm hb=>by
  rw [hres,List.all_eq_false.2 ⟨d,hm,by simp [hb]⟩];rfl
 (repeat' (first|refine Run.ct rfl ?_|((first|refine Run.reg mixed ?_|refine Run.AJ ?_)<;>try simp -implicitDefEqProofs only [AE,h12,decide_eq_true hd,h24,decide_eq_true hf,go_sem])|fail))
 refine Run.Be ?_
 refine Run.Bn ((fun (a1:AV)=>fun (i:Nat)=>put 1 a1 (put 3 (.d (.int .i64 i)) U)) _) (fun _=>B0 1 [.d (.sl (ds.map DE.enc)),.d (.sl (fs.map FE.enc))] E) (fun _=>σ) (fun i=>i≤ds.length∧(ds.take i).all GP=true) (fun i=>ds.length - i) ?_ 0 ⟨by simp,by simp⟩
 rintro i ⟨hi,hok⟩ ih
 by_cases hlt:i < ds.length
 · obtain ⟨x,hx⟩:=Bw hlt
   have hxm:=Ae hx
   have he:=Bh (enc:=DE.enc) hx
   have hw1:=Ba (show i+1≤9000000000000000000 by omega)
   have hxs:=h x hxm
   have hbx:=hbad x hxm
   have hs:=fun hp=>K3 (p:=GP) hok hx hp
   have hnm:=DL x.name 2 σ
   rw [show GH 2 x.name=upperB x.name from rfl] at hnm
   have hbs:=I9 x.vars true σ
   rw [RR] at hbs
   have h8:decide ((8:Int) < (x.cons.length:Int))=!decide (x.cons.length≤8):=gtN _ 8
   have hl1:decide ((x.cons.length:Int) < 1)=!decide (1≤x.cons.length):=by
    rw [Di];simp only [decide_eq_true_eq,CP,decide_eq_false_iff_not];omega
   have hdx:GP x=(((upperB x.name&&(decide (x.vars.length≤6)&&x.vars.all D1))&&(decide (1≤x.cons.length)&&decide (x.cons.length≤8)))&&x.cons.all Q9):=by
    simp [GP,Bool.and_assoc]
   obtain ⟨nm,vs,cs⟩:=x
   simp only [DE.enc] at he hnm hbs h8 hl1 hdx hxs
   cases hA:upperB nm with
   |false=>
    rw [hA] at hnm hdx
    (repeat' (first|refine Run.ct rfl ?_|((first|refine Run.reg mixed ?_|refine Run.AJ ?_|refine Run.A9 DI (AN.le_refl _) ?_|refine AH.det (hnm) ?_)<;>try simp -implicitDefEqProofs only [BX hlt,he,AE,go_sem])|fail))
    rw [hbx hdx]
   |true=>
   rw [hA] at hnm
   cases hB:(decide (vs.length≤6)&&vs.all D1) with
   |false=>
    rw [hB] at hbs
    rw [hA,hB] at hdx
    (repeat' (first|refine Run.ct rfl ?_|((first|refine Run.reg mixed ?_|refine Run.AJ ?_|refine Run.A9 DI (AN.le_refl _) ?_|refine AH.det (hnm) ?_|refine AH.det (hbs) ?_)<;>try simp -implicitDefEqProofs only [BX hlt,he,AE,go_sem])|fail))
    rw [hbx hdx]
   |true=>
   rw [hB] at hbs
   by_cases hC:1≤cs.length
   case neg=>
    rw [decide_eq_false hC] at hl1 hdx
    (repeat' (first|refine Run.ct rfl ?_|((first|refine Run.reg mixed ?_|refine Run.AJ ?_|refine Run.A9 DI (AN.le_refl _) ?_|refine AH.det (hnm) ?_|refine AH.det (hbs) ?_)<;>try simp -implicitDefEqProofs only [BX hlt,he,AE,hl1,go_sem])|fail))
    rw [hbx (by rw [hdx];simp)]
   rw [decide_eq_true hC] at hl1
   by_cases hD:cs.length≤8
   case neg=>
    rw [decide_eq_false hD] at h8 hdx
    (repeat' (first|refine Run.ct rfl ?_|((first|refine Run.reg mixed ?_|refine Run.AJ ?_|refine Run.A9 DI (AN.le_refl _) ?_|refine AH.det (hnm) ?_|refine AH.det (hbs) ?_)<;>try simp -implicitDefEqProofs only [BX hlt,he,AE,hl1,h8,go_sem])|fail))
    rw [hbx (by rw [hdx];simp)]
   rw [decide_eq_true hD] at h8
   rw [hA,hB,decide_eq_true hC,decide_eq_true hD] at hdx
   simp only [Bool.and_self,BG] at hdx
   rw [hdx] at hbx hs
   (repeat' (first|refine Run.ct rfl ?_|((first|refine Run.reg mixed ?_|refine Run.AJ ?_|refine AH.det (hnm) ?_|refine AH.det (hbs) ?_)<;>try simp -implicitDefEqProofs only [BX hlt,he,AE,hl1,h8,go_sem])|fail))
   refine Run.Be ?_
   refine Run.Bn ((fun (a1:AV) (a3:AV) (a4:AV)=>fun (k:Nat)=>put 1 a1 (put 3 a3 (put 4 a4 (put 5 (.d (.int .i64 k)) U)))) _ _ _) (fun _=>B0 1 [.d (.sl (ds.map DE.enc)),.d (.sl (fs.map FE.enc))] (B0 4 [.d (.str nm),.d (.sl (vs.map D3)),.d (.sl (cs.map CE.enc))] E)) (fun _=>σ) (fun k=>k≤cs.length∧(cs.take k).all Q9=true) (fun k=>cs.length - k) ?_ 0 ⟨by simp,by simp⟩
   rintro k ⟨hk,hokc⟩ ih2
   by_cases hkl:k < cs.length
   · obtain ⟨c,hc⟩:=Bw hkl
     have hcm:=Ae hc
     have hec:=Bh (enc:=CE.enc) hc
     have hwk:=Ba (show k+1≤9000000000000000000 by omega)
     have hcs:=hxs c hcm
     have hbc:Q9 c=false→CW ⟨ds,fs⟩=false:=fun hb=>hbx (List.all_eq_false.2 ⟨c,hcm,by simp [hb]⟩)
     have hsc:=fun hp=>K3 (p:=Q9) hokc hc hp
     have hcn:=DL c.name 2 σ
     rw [show GH 2 c.name=upperB c.name from rfl] at hcn
     have h6:decide ((6:Int) < (c.args.length:Int))=!decide (c.args.length≤6):=gtN _ 6
     have hcx:Q9 c=(upperB c.name&&decide (c.args.length≤6)&&c.args.all (Bo 40)):=rfl
     obtain ⟨cn,ar⟩:=c
     simp only [CE.enc] at hec hcn h6 hcx hcs
     cases hE:upperB cn with
     |false=>
      rw [hE] at hcn hcx
      (repeat' (first|refine Run.ct rfl ?_|((first|refine Run.reg mixed ?_|refine Run.AJ ?_|refine Run.A9 DI (AN.le_refl _) ?_|refine AH.det (hcn) ?_)<;>try simp -implicitDefEqProofs only [BX hkl,hec,AE,go_sem])|fail))
      rw [hbc hcx]
     |true=>
     rw [hE] at hcn
     by_cases hF:ar.length≤6
     case neg=>
      rw [decide_eq_false hF] at h6 hcx
      (repeat' (first|refine Run.ct rfl ?_|((first|refine Run.reg mixed ?_|refine Run.AJ ?_|refine Run.A9 DI (AN.le_refl _) ?_|refine AH.det (hcn) ?_)<;>try simp -implicitDefEqProofs only [BX hkl,hec,AE,h6,go_sem])|fail))
      rw [hbc (by rw [hcx];simp)]
     rw [decide_eq_true hF] at h6
     rw [hE,decide_eq_true hF] at hcx
     simp only [Bool.and_self,BG] at hcx
     rw [hcx] at hbc hsc
     (repeat' (first|refine Run.ct rfl ?_|((first|refine Run.reg mixed ?_|refine Run.AJ ?_|refine AH.det (hcn) ?_)<;>try simp -implicitDefEqProofs only [BX hkl,hec,AE,h6,go_sem])|fail))
     refine Run.Be ?_
     refine Run.Bn ((fun (a1:AV) (a3:AV) (a4:AV) (a5:AV)=>fun (a:Nat)=>put 1 a1 (put 3 a3 (put 4 a4 (put 5 a5 (put 6 (.d (.int .i64 a)) U))))) _ _ _ _) (fun _=>B0 1 [.d (.sl (ds.map DE.enc)),.d (.sl (fs.map FE.enc))] (B0 4 [.d (.str nm),.d (.sl (vs.map D3)),.d (.sl (cs.map CE.enc))] E)) (fun _=>σ) (fun a=>a≤ar.length∧(ar.take a).all (Bo 40)=true) (fun a=>ar.length - a) ?_ 0 ⟨by simp,by simp⟩
     rintro a ⟨ha,hoka⟩ ih3
     by_cases hal:a < ar.length
     · obtain ⟨t,ht⟩:=Bw hal
       have htm:=Ae ht
       have het:=Bh (enc:=TE.enc) ht
       have hwa:=Ba (show a+1≤9000000000000000000 by omega)
       have hv:=Wb 40 t σ (A7 _) (hcs t htm)
       rw [show ((40:Nat):Int)=40 from rfl] at hv
       cases hp:Bo 40 t with
       |true=>
        rw [hp] at hv
        obtain ⟨tk,tn,tl⟩:=t
        simp only [TE.A0,teA,AF,AI] at het hv
        (repeat' (first|refine Run.ct rfl ?_|((first|refine Run.reg mixed ?_|refine Run.AJ ?_|refine AH.det (hv) ?_)<;>try simp -implicitDefEqProofs only [BX hal,hec,het,hwa,AE,go_sem])|fail))
        exact ih3 (a+1) ⟨by omega,K3 hoka ht hp⟩ (by omega)
       |false=>
        rw [hp] at hv
        obtain ⟨tk,tn,tl⟩:=t
        simp only [TE.A0,teA,AF,AI] at het hv
        (repeat' (first|refine Run.ct rfl ?_|((first|refine Run.reg mixed ?_|refine Run.AJ ?_|refine Run.A9 DI (AN.le_refl _) ?_|refine AH.det (hv) ?_)<;>try simp -implicitDefEqProofs only [BX hal,hec,het,hwa,AE,go_sem])|fail))
        rw [hbc (XU ht hp)]
     · rw [Ad (by omega)] at hoka
       (repeat' (first|refine Run.ct rfl ?_|((first|refine Run.reg mixed ?_|refine Run.AJ ?_)<;>try simp -implicitDefEqProofs only [F2 hal,hec,hwk,AE,go_sem])|fail))
       exact ih2 (k+1) ⟨by omega,hsc hoka⟩ (by omega)
   · rw [Ad (by omega)] at hokc
     (repeat' (first|refine Run.ct rfl ?_|((first|refine Run.reg mixed ?_|refine Run.AJ ?_)<;>try simp -implicitDefEqProofs only [F2 hkl,hw1,AE,go_sem])|fail))
     exact ih (i+1) ⟨by omega,hs hokc⟩ (by omega)
 · rw [Ad (by omega)] at hok
   rw [hok,BG] at hres
   clear ih
   (repeat' (first|refine Run.ct rfl ?_|((first|refine Run.reg mixed ?_|refine Run.AJ ?_)<;>try simp -implicitDefEqProofs only [F2 hlt,AE,go_sem])|fail))
   intro j hj
   obtain ⟨hle3,hb⟩:=x8 (z:=[.d (.int .i64 0)]) (x:=([AV.d (.int .i64 0)].length,3)) hj
   simp only [AD,AG,B7] at hle3 hb
   generalize (σ.AM j [.d (.int .i64 0)]).Gi j (1,3)=σ3 at hle3 hb ⊢
   simp -implicitDefEqProofs only [hb,go_sem]
   (repeat' (first|refine Run.ct rfl ?_|((first|refine Run.reg mixed ?_|refine Run.AJ ?_)<;>try simp -implicitDefEqProofs only [hb,AE,go_sem])|fail))
   exact YM ds fs σ (σ3.AM j [.d (.int .i64 600)]) j (qR hle3 hj.1) (by simp only [AO,if_true]) hj.1 hres hf
end Go.Ab
namespace Go.Ab
open Go.Proofs
theorem sH {s:Str} {k:Int} {t:Str} (h:CK s= .ok (k,t)) (hl:s.length≤20000) (hk:k=3):eB t:=by
 match s,h with
 |b::r,h=>
  simp only [CK] at h
  split at h
  · split at h
    · cases h
    · split at h
      · cases h;omega
      · split at h<;>(cases h;omega)
  · split at h
    · rename_i hd
      split at h
      · cases h
      · split at h
        · rename_i hv
          simp only [Dj,BH] at h
          obtain ⟨_,rfl⟩:=h
          refine .inr ⟨?_,aR,hv,Ay (Du _ _) hl⟩
          rw [Bg,if_pos (show Bf Dt b=true from hd)];simp
        · cases h
    · split at h
      · cases h
      · cases h;omega
theorem Wy:∀(n:Nat) (rest:Str) (i:Nat) (acc:List Tok),rest.length≤20000→NOk acc→(C4 n rest i acc).2.2=0→NOk (C4 n rest i acc).1
 |0,rest,i,acc,_,_,_=>fun t ht=>by cases ht
 |n+1,[],i,acc,_,ha,_=>fun t ht hk=>by
  rcases BV.1 ht with ht|ht
  · exact ha t ht hk
  · rw [Ev] at ht;subst ht;cases hk
 |n+1,b::r,i,acc,hl,ha,h=>by
  rw [C4] at h ⊢
  split at h
  · rename_i hb
    rw [if_pos hb]
    exact Wy n r (i+1) acc (by simp at hl;omega) ha h
  · rename_i hb
    rw [if_neg hb]
    split at h
    · rename_i hc
      rw [if_pos hc]
      exact Wy n _ _ acc (by rw [Ag];omega) ha h
    · rename_i hc
      rw [if_neg hc]
      cases hs:CK (b::r) with
      |error e=>
       rw [hs] at h
       simp only at h
       rcases NF hs with rfl|rfl<;>cases h
      |ok x=>
       obtain ⟨k,t⟩:=x
       rw [hs] at h
       simp only at h ⊢
       refine Wy n _ _ _ (by rw [Ag];omega) (fun u hu hk=>?_) h
       rcases BV.1 hu with hu|hu
       · exact ha u hu hk
       · rw [Ev] at hu;subst hu;exact sH hs hl hk
theorem oE {s:Str} (h:(Am s).2.2=0):NOk (Am s).1:=by
 unfold Am at h ⊢
 split at h
 · cases h
 · rename_i hl
   rw [if_neg hl]
   exact Wy _ s 0 [] (by omega) (fun t ht=>by cases ht) h
theorem yK (i:Nat) (L:List Tok):PC 129 [.gp i 0] i L BC bT ceA:=by
 intro σ s0 g0 h0 l0 b0
 refine Sr (by simp) ?_
 rw [BE]
 simp only [bT,tyR,run_bind,run_pure,ceA,CE.enc,AF,AI]
 (have c0:=(SW i L BC) σ s0 g0 h0 (by omega) b0;have h1:=h0.run (FG);have l1:=PM.le (FG) h0.wf;generalize (FG).run s0=y at c0 h1 l1 ⊢;obtain ⟨x0,s1⟩:=y;simp only at c0 h1 l1 ⊢;have b1:(σ.AM i (psA L s1)).blk i=some (psA L s1):=(by rw [AO,if_pos rfl]))
 (have c1:=((JR i L BC Xk (sY i L BC)).pc.mono (Nat.le_succ BC)) (σ.AM i (psA L s1)) s1 g0 h1 (by omega) b1;rw [A2] at c1;have h2:=h1.run (Ht (Fl BC));have l2:=PM.le (Ht (Fl BC)) h1.wf;generalize (Ht (Fl BC)).run s1=y at c1 h2 l2 ⊢;obtain ⟨x1,s2⟩:=y;simp only at c1 h2 l2 ⊢;have b2:(σ.AM i (psA L s2)).blk i=some (psA L s2):=(by rw [AO,if_pos rfl]))
 (repeat' (first|refine Run.ct rfl ?_|((first|refine Run.reg mixed ?_|refine Run.AJ ?_|refine Run.A9 Lt (AN.le_refl _) ?_|(refine AH.upd c0 ?_)|(refine AH.upd c1 ?_)|(refine AR rfl (fun h=>?_) (fun h=>?_)<;>try (cases h;done)))<;>try simp -implicitDefEqProofs only [go_sem])|(refine ⟨fun h=>?_,fun h=>?_⟩<;>first|(cases h;done)|try simp only [h])|fail))
theorem tW (i:Nat) (L:List Tok):PC 66 [.gp i 0] i L BC JS deA:=by
 intro σ s0 g0 h0 l0 b0
 refine Rc (by simp) ?_
 rw [BE]
 simp only [JS,run_bind,run_pure,deA,DE.enc,AF,AI]
 (have c0:=(SW i L BC) σ s0 g0 h0 (by omega) b0;have h1:=h0.run (FG);have l1:=PM.le (FG) h0.wf;generalize (FG).run s0=y at c0 h1 l1 ⊢;obtain ⟨x0,s1⟩:=y;simp only at c0 h1 l1 ⊢;have b1:(σ.AM i (psA L s1)).blk i=some (psA L s1):=(by rw [AO,if_pos rfl]))
 (have c1:=((Og i L BC bB (Ps i L BC)).pc.mono (Nat.le_succ BC)) (σ.AM i (psA L s1)) s1 g0 h1 (by omega) b1;rw [A2] at c1;have h2:=h1.run (Ht FB);have l2:=PM.le (Ht FB) h1.wf;generalize (Ht FB).run s1=y at c1 h2 l2 ⊢;obtain ⟨x1,s2⟩:=y;simp only at c1 h2 l2 ⊢;have b2:(σ.AM i (psA L s2)).blk i=some (psA L s2):=(by rw [AO,if_pos rfl]))
 (have c2:=(DH i L BC [61] (by decide)) (σ.AM i (psA L s2)) s2 g0 h2 (by omega) b2;rw [A2] at c2;have h3:=h2.run (PM.exp [61] (by decide));have l3:=PM.le (PM.exp [61] (by decide)) h2.wf;generalize (PM.exp [61] (by decide)).run s2=y at c2 h3 l3 ⊢;obtain ⟨x2,s3⟩:=y;simp only at c2 h3 l3 ⊢;have b3:(σ.AM i (psA L s3)).blk i=some (psA L s3):=(by rw [AO,if_pos rfl]))
 (have c3:=(Rq i L BC yT (yK i L) [124] (by decide)).pc (σ.AM i (psA L s3)) s3 g0 h3 (by omega) b3;rw [A2] at c3;have h4:=h3.run (items bT [124] (by decide));have l4:=PM.le (items bT [124] (by decide)) h3.wf;generalize (items bT [124] (by decide)).run s3=y at c3 h4 l4 ⊢;obtain ⟨x3,s4⟩:=y;simp only at c3 h4 l4 ⊢;have b4:(σ.AM i (psA L s4)).blk i=some (psA L s4):=(by rw [AO,if_pos rfl]))
 (have c4:=(DH i L BC [59] (by decide)) (σ.AM i (psA L s4)) s4 g0 h4 (by omega) b4;rw [A2] at c4;have h5:=h4.run (PM.exp [59] (by decide));have l5:=PM.le (PM.exp [59] (by decide)) h4.wf;generalize (PM.exp [59] (by decide)).run s4=y at c4 h5 l5 ⊢;obtain ⟨x4,s5⟩:=y;simp only at c4 h5 l5 ⊢;have b5:(σ.AM i (psA L s5)).blk i=some (psA L s5):=(by rw [AO,if_pos rfl]))
 (repeat' (first|refine Run.ct rfl ?_|((first|refine Run.reg mixed ?_|refine Run.AJ ?_|refine Run.A9 Kt (AN.le_refl _) ?_|(refine AH.upd c0 ?_)|(refine AH.upd c1 ?_)|(refine AH.upd c2 ?_)|(refine AH.upd c3 ?_)|(refine AH.upd c4 ?_)|(refine AR rfl (fun h=>?_) (fun h=>?_)<;>try (cases h;done)))<;>try simp -implicitDefEqProofs only [go_sem])|(refine ⟨fun h=>?_,fun h=>?_⟩<;>first|(cases h;done)|try simp only [h])|fail))
theorem yQ (i:Nat) {L:List Tok} (hN:NOk L):PC 67 [.gp i 0] i L BC Pt feA:=by
 intro σ s0 g0 h0 l0 b0
 refine Ss (by simp) ?_
 rw [BE]
 simp only [Pt,exR,run_bind,run_pure]
 (have c0:=(Ps i L BC) σ s0 g0 h0 (by omega) b0;have h1:=h0.run (FB);have l1:=PM.le (FB) h0.wf;generalize (FB).run s0=y at c0 h1 l1 ⊢;obtain ⟨x0,s1⟩:=y;simp only at c0 h1 l1 ⊢;have b1:(σ.AM i (psA L s1)).blk i=some (psA L s1):=(by rw [AO,if_pos rfl]))
 (have c1:=(DH i L BC [40] (by decide)) (σ.AM i (psA L s1)) s1 g0 h1 (by omega) b1;rw [A2] at c1;have h2:=h1.run (PM.exp [40] (by decide));have l2:=PM.le (PM.exp [40] (by decide)) h1.wf;generalize (PM.exp [40] (by decide)).run s1=y at c1 h2 l2 ⊢;obtain ⟨x1,s2⟩:=y;simp only at c1 h2 l2 ⊢;have b2:(σ.AM i (psA L s2)).blk i=some (psA L s2):=(by rw [AO,if_pos rfl]))
 (have c2:=(OX i L BC bB (Ps i L BC)).pc (σ.AM i (psA L s2)) s2 g0 h2 (by omega) b2;rw [A2] at c2;have h3:=h2.run (closed FB);have l3:=PM.le (closed FB) h2.wf;generalize (closed FB).run s2=y at c2 h3 l3 ⊢;obtain ⟨x2,s3⟩:=y;simp only at c2 h3 l3 ⊢;have b3:(σ.AM i (psA L s3)).blk i=some (psA L s3):=(by rw [AO,if_pos rfl]))
 (have c3:=(DH i L BC [61] (by decide)) (σ.AM i (psA L s3)) s3 g0 h3 (by omega) b3;rw [A2] at c3;have h4:=h3.run (PM.exp [61] (by decide));have l4:=PM.le (PM.exp [61] (by decide)) h3.wf;generalize (PM.exp [61] (by decide)).run s3=y at c3 h4 l4 ⊢;obtain ⟨x3,s4⟩:=y;simp only at c3 h4 l4 ⊢;have b4:(σ.AM i (psA L s4)).blk i=some (psA L s4):=(by rw [AO,if_pos rfl]))
 (have c4:=(kD i hN BC) (σ.AM i (psA L s4)) s4 g0 h4 (by omega) b4;rw [A2] at c4;have h5:=h4.run (CD BC);have l5:=PM.le (CD BC) h4.wf;generalize (CD BC).run s4=y at c4 h5 l5 ⊢;obtain ⟨x4,s5⟩:=y;simp only at c4 h5 l5 ⊢;have b5:(σ.AM i (psA L s5)).blk i=some (psA L s5):=(by rw [AO,if_pos rfl]);obtain ⟨o4,n4,u4,ns4,ks4,al4⟩:=x4;simp only [exA,Ex.A0,AF,AI] at c4 ⊢)
 (have c5:=(DH i L BC [59] (by decide)) (σ.AM i (psA L s5)) s5 g0 h5 (by omega) b5;rw [A2] at c5;have h6:=h5.run (PM.exp [59] (by decide));have l6:=PM.le (PM.exp [59] (by decide)) h5.wf;generalize (PM.exp [59] (by decide)).run s5=y at c5 h6 l6 ⊢;obtain ⟨x5,s6⟩:=y;simp only at c5 h6 l6 ⊢;have b6:(σ.AM i (psA L s6)).blk i=some (psA L s6):=(by rw [AO,if_pos rfl]))
 simp only [feA,FE.enc,Ex.A0,AF,AI]
 (repeat' (first|refine Run.ct rfl ?_|((first|refine Run.reg mixed ?_|refine Run.AJ ?_|refine Run.A9 Lu (AN.le_refl _) ?_|(refine AH.upd c0 ?_)|(refine AH.upd c1 ?_)|(refine AH.upd c2 ?_)|(refine AH.upd c3 ?_)|(refine AH.upd c4 ?_)|(refine AH.upd c5 ?_)|(refine AR rfl (fun h=>?_) (fun h=>?_)<;>try (cases h;done)))<;>try simp -implicitDefEqProofs only [go_sem])|(refine ⟨fun h=>?_,fun h=>?_⟩<;>first|(cases h;done)|try simp only [h])|fail))
theorem WV.of {σ τ:AN} {i e z:Nat} {rows:List (List DV)} {v:AV} (hg:WV σ) (h:E3 (σ.Dw i) e z rows v τ):WV τ:=by
 obtain ⟨te,pe,he⟩:=hg
 exact ⟨te,pe,by rw [← h.le.gt];exact he⟩
set_option maxHeartbeats 2000000 in
theorem iX (i:Nat) {L:List Tok} (hN:NOk L):PC 28 [.gp i 0] i L BC HL pgA:=by
 intro σ s0 g0 h0 l0 b0
 refine O6 (by simp) ?_
 rw [BE]
 (repeat' (first|refine Run.ct rfl ?_|((first|refine Run.reg mixed ?_|refine Run.AJ ?_|(refine AR rfl (fun h=>?_) (fun h=>?_)<;>try (cases h;done)))<;>try simp -implicitDefEqProofs only [go_sem])|(refine ⟨fun h=>?_,fun h=>?_⟩<;>first|(cases h;done)|try simp only [h])|fail))
 refine Run.Be ?_
 have hf0:=FL
 have hl0:=h0.suf.length_le
 have hl1:=h0.len
 have hdel:(σ.Dw i).le σ:=⟨fun j c hj=>by
  have:j≠i:=fun e=>by rw [e] at hj;simp [AN.Dw] at hj
  simpa [AN.Dw,this] using hj,fun _ h=>h,rfl,fun _ _ h=>h⟩
 refine Run.Bn (α:=PSt×List DE×List FE×Nat×AV×AV×AN) (fun _=>put 0 (.gp i 0) (put 2 (.lp 2 0) (put 3 (.lp 3 0) U))) (fun y=>B0 2 [.AX,.AX] (B0 3 [y.2.2.2.2.1,y.2.2.2.2.2.1] Ab.E)) (fun y=>y.2.2.2.2.2.2)
  (fun y=>POk L y.1∧y.1.r.length≤y.2.2.2.1∧y.2.1.length+y.2.2.1.length+y.1.r.length≤17000∧E3 (σ.Dw i) 61 3 (y.2.1.map DE.enc) y.2.2.2.2.1 y.2.2.2.2.2.2∧E3 (σ.Dw i) 66 8 (y.2.2.1.map FE.enc) y.2.2.2.2.2.1 y.2.2.2.2.2.2∧XC y.2.2.2.2.1 y.2.2.2.2.2.1∧y.2.2.2.2.2.2.blk i=some (psA L y.1)∧(Ds y.2.2.2.1 y.2.1 y.2.2.1).run y.1=HL.run s0) (fun y=>y.1.r.length) ?_ (s0,[],[],BC,.AX,.AX,σ)
  ⟨h0,by simp only;omega,by simp;omega,E3.mono (E3.nil σ _ _) hdel,E3.mono (E3.nil σ _ _) hdel,fT _,b0,rfl⟩
 rintro ⟨s2,ds,fs,q,vd,vf,τ⟩ ⟨p1,p2,p3,p4,p5,p6,p7,p8⟩ ih
 simp only at p1 p2 p3 p4 p5 p6 p7 p8
 obtain ⟨q,rfl⟩:∃m,q=m+1:=⟨q - 1,by have:=An.2 p1.wf.ne;omega⟩
 rw [My] at p8
 have hpk:=Pv p1 τ p7
 have hgt:WV τ:=g0.of p4
 have hn1:vd.BT 3=false:=p4.BT 3
 cases hk:s2.hd.kind==6 with
 |true=>
  rw [hk,if_pos rfl] at p8
  rw [← p8]
  have hne:(s2.hd.kind != 6)=false:=by unfold bne;rw [hk];rfl
  simp only [pgA,Pg.enc,AF,AI]
  have hle:=(LS.mk p4 p7:LS σ i L s2 _ _ _ _ _).le
  (repeat' (first|refine Run.ct rfl ?_|((first|refine Run.reg mixed ?_|refine Run.AJ ?_|(refine Run.A9 I3 hle ?_)|refine AH.det (hpk) ?_|(refine AR rfl (fun h=>?_) (fun h=>?_)<;>try (cases h;done)))<;>try simp -implicitDefEqProofs only [hne,p4.BT,p5.BT,p4.At,p5.At,p4.cell,p5.cell,p4.plain,p5.plain,if_true,go_sem])|(refine ⟨fun h=>?_,fun h=>?_⟩<;>first|(cases h;done)|try simp only [h])|fail))
 |false=>
  have hne:(s2.hd.kind != 6)=true:=by unfold bne;rw [hk];rfl
  rw [hk,if_neg (by decide)] at p8
  cases t1:s2.hd.text==[100,97,116,97] with
  |true=>
   rw [t1,if_pos rfl] at p8
   have c1:=DG p1 _ τ p7 t1
   have h3:=p1.adv (t:=[100,97,116,97]) (by decide) t1
   have l3:=BR p1.wf
   generalize s2.adv=s3 at c1 h3 l3 p8
   have c2:=tW i L (τ.AM i (psA L s3)) s3 hgt h3 (by omega) (by rw [AO,if_pos rfl])
   rw [A2] at c2
   have h4:=h3.run JS
   have l4:=PM.le JS h3.wf
   generalize JS.run s3=y at c2 h4 l4 p8
   obtain ⟨d,s4⟩:=y
   simp only at c2 h4 l4 p8
   obtain ⟨dn,dv,dc⟩:=d
   simp only [deA,DE.enc,AF,AI] at c2
   have q4:=p4.jE (Mf σ i) (psA L s4)
   have q5:=p5.jE (Mf σ i) (psA L s4)
   (repeat' (first|refine Run.ct rfl ?_|((first|refine Run.reg mixed ?_|refine Run.AJ ?_|(refine AH.upd c1 ?_)|(refine AH.upd c2 ?_)|refine AH.det (hpk) ?_|(refine AR rfl (fun h=>?_) (fun h=>?_)<;>try (cases h;done)))<;>try simp -implicitDefEqProofs only [hne,p4.BT,p5.BT,p4.cell,p5.cell,p4.cells,p5.cells,if_true,go_sem])|(refine ⟨fun h=>?_,fun h=>?_⟩<;>first|(cases h;done)|try simp only [h])|fail))
   (apply Io.AA9 (cx:=Bk) q4;rfl;simp;(simp only [AE,AD,AG];omega);decide;intro v2 τ2 ho hbk hkp)
   obtain ⟨r5,r6⟩:=hkp _ _ _ _ q5 p6
   simp -implicitDefEqProofs only [ho.BT,ho.At,ho.cells,ho.cell,p4.cell,p5.cell,if_true,go_sem]
   (repeat' (first|refine Run.ct rfl ?_|((first|refine Run.reg mixed ?_|refine Run.AJ ?_|(refine AR rfl (fun h=>?_) (fun h=>?_)<;>try (cases h;done)))<;>try simp -implicitDefEqProofs only [ho.BT,ho.At,ho.cells,ho.cell,go_sem])|(refine ⟨fun h=>?_,fun h=>?_⟩<;>first|(cases h;done)|try simp only [h])|fail))
   refine ih (s4,ds++[⟨dn,dv,dc⟩],fs,q,v2,vf,τ2) ⟨h4,by simp only;omega,by simp only [AA,AD,AG];omega,?_,r5,r6,by simp [hbk,AO],p8⟩ (by simp only;omega)
   simp only [BU,AF,AI,DE.enc]
   exact ho
  |false=>
  have f1:=DF p1 _ τ p7 t1
  rw [t1,if_neg (by decide)] at p8
  cases t2:s2.hd.text==[102,117,110] with
  |true=>
   rw [t2,if_pos rfl] at p8
   have c1:=DG p1 _ τ p7 t2
   have h3:=p1.adv (t:=[102,117,110]) (by decide) t2
   have l3:=BR p1.wf
   generalize s2.adv=s3 at c1 h3 l3 p8
   have c2:=yQ i hN (τ.AM i (psA L s3)) s3 hgt h3 (by omega) (by rw [AO,if_pos rfl])
   rw [A2] at c2
   have h4:=h3.run Pt
   have l4:=PM.le Pt h3.wf
   generalize Pt.run s3=y at c2 h4 l4 p8
   obtain ⟨d,s4⟩:=y
   simp only at c2 h4 l4 p8
   obtain ⟨fn,fp,fb⟩:=d
   obtain ⟨o0,n0,u0,ns0,ks0,al0⟩:=fb
   simp only [feA,FE.enc,Ex.A0,AF,AI] at c2
   have q4:=p4.jE (Mf σ i) (psA L s4)
   have q5:=p5.jE (Mf σ i) (psA L s4)
   (repeat' (first|refine Run.ct rfl ?_|((first|refine Run.reg mixed ?_|refine Run.AJ ?_|(refine AH.upd c1 ?_)|(refine AH.upd c2 ?_)|refine AH.det (hpk) ?_|refine AH.det (f1) ?_|(refine AR rfl (fun h=>?_) (fun h=>?_)<;>try (cases h;done)))<;>try simp -implicitDefEqProofs only [hne,p4.BT,p5.BT,p4.cell,p5.cell,p4.cells,p5.cells,if_true,go_sem])|(refine ⟨fun h=>?_,fun h=>?_⟩<;>first|(cases h;done)|try simp only [h])|fail))
   (apply Io.AA9 (cx:=Bk) q5;rfl;simp;(simp only [AE,AD,AG];omega);decide;intro v2 τ2 ho hbk hkp)
   obtain ⟨r5,r6⟩:=hkp _ _ _ _ q4 p6.symm
   simp -implicitDefEqProofs only [ho.BT,ho.At,ho.cells,ho.cell,p4.cell,p5.cell,if_true,go_sem]
   (repeat' (first|refine Run.ct rfl ?_|((first|refine Run.reg mixed ?_|refine Run.AJ ?_|(refine AR rfl (fun h=>?_) (fun h=>?_)<;>try (cases h;done)))<;>try simp -implicitDefEqProofs only [ho.BT,ho.At,ho.cells,ho.cell,go_sem])|(refine ⟨fun h=>?_,fun h=>?_⟩<;>first|(cases h;done)|try simp only [h])|fail))
   refine ih (s4,ds,fs++[⟨fn,fp,.mk o0 n0 u0 ns0 ks0 al0⟩],q,vd,v2,τ2) ⟨h4,by simp only;omega,by simp only [AA,AD,AG];omega,r5,?_,r6.symm,by simp [hbk,AO],p8⟩ (by simp only;omega)
   simp only [BU,AF,AI,FE.enc,Ex.A0]
   exact ho
  |false=>
  have f2:=DF p1 _ τ p7 t2
  rw [t2,if_neg (by decide)] at p8
  have c1:=Ub p1 τ p7
  have h3:=p1.fail
  have l3:=Xb p1.wf
  have h2':=tB p1.wf hk
  have q4:=p4.jE (Mf σ i) (psA L s2.fail)
  have q5:=p5.jE (Mf σ i) (psA L s2.fail)
  (repeat' (first|refine Run.ct rfl ?_|((first|refine Run.reg mixed ?_|refine Run.AJ ?_|(refine AH.upd c1 ?_)|refine AH.det (hpk) ?_|refine AH.det (f1) ?_|refine AH.det (f2) ?_|(refine AR rfl (fun h=>?_) (fun h=>?_)<;>try (cases h;done)))<;>try simp -implicitDefEqProofs only [hne,p4.BT,p5.BT,p4.cell,p5.cell,p4.cells,p5.cells,if_true,go_sem])|(refine ⟨fun h=>?_,fun h=>?_⟩<;>first|(cases h;done)|try simp only [h])|fail))
  exact ih (s2.fail,ds,fs,q,vd,vf,_) ⟨h3,by simp only;omega,by simp only;omega,q4,q5,p6,by simp [AO],p8⟩ (by simp only;omega)
end Go.Ab
