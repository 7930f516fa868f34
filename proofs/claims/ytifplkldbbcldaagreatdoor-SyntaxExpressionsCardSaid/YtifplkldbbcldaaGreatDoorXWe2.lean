/- Several owned slices side by side. Valid programs, as the reference looks at them. The parser: declarations, programs, Parse. Conditions: none. -/
import Derived.Test.YtifplkldbbcldaaGreatDoorXPi
set_option linter.unusedSimpArgs false
set_option linter.unusedVariables false
set_option maxRecDepth 4000
set_option maxHeartbeats 8000000
open Nat renaming mul_le_mul→Oh,le_refl→A9,zero_add→Bb,le_trans→BD
open Option.some renaming injEq→AR
open List renaming length_map→AG,map_cons→AF,map_nil→AI,take_of_length_le→A8,mem_of_getElem?→Ae,length_cons→AB,length_nil→AE,takeWhile_cons→F5,mem_append→BW,mem_singleton→Dv,length_drop→An,length_pos_iff→Aq,length_append→AA,map_append→Bp
open Bool renaming eq_iff_iff→Dn,not_eq_true'→CS,true_and→BJ
open Except.ok renaming injEq→Gw
open Prod.mk renaming injEq→B7
namespace Go.Ab
def mH:AV→Option Nat
 | .own t _ _ _=>some t
 |_=>none
def Xj (v w:AV):Prop:=∀t,mH v=some t→mH w≠some t
theorem Xj.symm {v w:AV} (h:Xj v w):Xj w v:=fun t h1 h2=>h t h2 h1
theorem jR (w:AV):Xj .AY w:=fun t h=>by cases h
theorem EW.WE {σ0 σ σ':AM} {e s:Nat} {rows:List (List DV)} {w:AV} (h:EW σ0 e s rows w σ) (hle:σ0.le σ') (ht:∀t,mH w=some t→σ.tok t=true→σ'.tok t=true):EW σ0 e s rows w σ':=by
 obtain ⟨⟨σ1,ha,hl⟩,_,h1,h2,h3,h4,h5,h6,h7⟩:=h
 refine ⟨?_,hle,h1,h2,h3,h4,h5,h6,h7⟩
 unfold Pm at ha ⊢
 split at ha
 · cases ha;exact ⟨σ',rfl,hle⟩
 · rename_i t e' s' rows'
   split at ha
   · rename_i hc
     cases ha
     obtain ⟨q1,q2,q3⟩:=hc
     refine ⟨σ'.FK t,by rw [if_pos ⟨q1,q2,ht t rfl q3⟩],⟨hle.blk,fun t' h'=>?_,hle.gt,hle.bt⟩⟩
     have hne:t'≠t:=fun e=>by
      have:=hl.tok t' h'
      simp [AM.FK,e] at this
     simp [AM.FK,hne,hle.tok t' h']
   · cases ha
 · cases ha
theorem Kf.ADH {cx:Cx} {K:Fm→Lm→AM→Prop} {F:Fm} {L:Lm} {σ σ0:AM} {d:Option Nat} {e size bytes:Nat} {s x:AV} {rows srows:List (List DV)} (ho:EW σ0 e size rows s σ) (h2:x.rows=some srows)
 (h3:∀r∈srows,r.length=size) (h4:rows.length+srows.length≤1000000000) (hb:bytes≤10000)
 (h:∀v σ',EW σ0 e size (rows++srows) v σ'→(∀i,σ'.blk i=σ.blk i)→(∀e2 s2 rows2 w,EW σ0 e2 s2 rows2 w σ→Xj s w→EW σ0 e2 s2 rows2 w σ'∧Xj v w)→K (Au d v F) L σ'):Kf e size bytes s x d K F L σ:=by
 obtain ⟨σ1,ha,hl⟩:=ho.app
 have hblk:∀i,σ1.blk i=σ.blk i:=fun i=>by
  unfold Pm at ha
  split at ha
  · cases ha;rfl
  · split at ha
    · cases ha;rfl
    · cases ha
  · cases ha
 have htok:∀t,mH s≠some t→σ.tok t=true→σ1.tok t=true:=fun t hne ht=>by
  unfold Pm at ha
  split at ha
  · cases ha;exact ht
  · rename_i ts e' s' rows'
    split at ha
    · cases ha
      have:t≠ts:=fun e=>hne (by rw [e];rfl)
      simp [AM.FK,this,ht]
    · cases ha
  · cases ha
 refine Kf.mk ha h2 h3 (by simp only [maxLen];omega) ?_ (fun t ht=>h _ _ (EW.own hl ho.le ht) (fun i=>by rw [GJ];exact hblk i) (fun e2 s2 rows2 w hw hap=>?_))
 · calc (rows.length+srows.length) * bytes≤1000000000 * 10000:=Oh h4 hb
    _≤140737488355328:=by decide
 · have hwt:∀t',mH w=some t'→σ.tok t'=true:=fun t' h'=>by
    obtain ⟨_,hw1,_⟩:=hw.app
    cases w<;>simp only [mH] at h'<;>try cases h'
    simp only [Pm] at hw1
    split at hw1
    · rename_i hc;exact hc.2.2
    · cases hw1
   have hown:=EW.own (e:=e) (s:=size) (rows:=rows++srows) hl ho.le ht
   refine ⟨hw.WE hown.le (fun t' h1 h2=>?_),fun t' h1 h3=>?_⟩
   · have:=htok t' (fun e=>hap t' e h1) h2
     simp [AM.D7,this]
   · simp only [mH,AR] at h1
     subst h1
     rw [hwt _ h3] at ht;cases ht
end Go.Ab
namespace Go.Ab
open Go.Proofs
set_option maxHeartbeats 4000000 in
theorem ZI (ds:List DE) (fs:List FE) (σ σ3:AM) (j:Nat) (hle:σ.le σ3) (hb:σ3.blk j=some [.d (.int .i64 600)]) (hsj:σ.blk j=none) (hres:C0 ⟨ds,fs⟩=(fs.foldlM Pd 600).isSome) (hf24:fs.length≤24):
 Run Ka (fun v σ'=>v= .d (.bool (C0 ⟨ds,fs⟩))∧σ'=σ) [.code (.loop Tn),.blk 6,.code (.seq (.reg [⟨some 2,.mv (.c (.d (.bool true))),none⟩] [2]) .ret)] (put 1 (.lp 1 0) (put 7 (.gp j 0) (put 8 (.d (.int .i64 0)) U))) (B8 1 [.d (.sl (ds.map DE.enc)),.d (.sl (fs.map FE.enc))] E) σ3:=by
 refine Run.Ba ?_
 refine Run.xF (σ':=σ3.AL j [.d (.int .i64 (Gk 600))]) (Il hb) ?_
 refine Run.Bd ((fun (a1:AV) (a7:AV)=>fun (y:Nat×Nat)=>put 1 a1 (put 7 a7 (put 8 (.d (.int .i64 y.1)) U))) _ _) (fun _=>B8 1 [.d (.sl (ds.map DE.enc)),.d (.sl (fs.map FE.enc))] E) (fun y=>σ3.AL j [.d (.int .i64 (Gk y.2))])
  (fun y=>y.1≤fs.length∧y.2≤600∧(fs.take y.1).foldlM Pd 600=some y.2) (fun y=>fs.length - y.1) ?_ (0,600) ⟨by simp,by simp,rfl⟩
 rintro ⟨i,q⟩ ⟨hi,hq,hok⟩ ih
 simp only at hi hq hok
 have hσ:∀z:Int,σ.le (σ3.AL j [.d (.int .i64 z)]):=fun z=>k6 hle hsj
 by_cases hlt:i < fs.length
 · obtain ⟨x,hx⟩:=C7 hlt
   have he:=CR (enc:=FE.enc) hx
   have hw1:=BU (show i+1≤9000000000000000000 by omega)
   have hnm:=DP x.name 1 (σ3.AL j [.d (.int .i64 (Gk q))])
   rw [show GS 1 x.name=D5 x.name from rfl] at hnm
   have hps:=Ik x.params true (σ3.AL j [.d (.int .i64 (Gk q))])
   rw [Rk] at hps
   have hc:=XR j 40 q (A9 _) hq x.body (σ3.AL j [.d (.int .i64 (Gk q))]) (by simp only [AO,if_true])
   rw [show ((40:Nat):Int)=40 from rfl] at hc
   have hno:Pd q x=none→fs.foldlM Pd 600=none:=fun h=>KL hok hx h
   have hyes:∀r,Pd q x=some r→(fs.take (i+1)).foldlM Pd 600=some r:=fun r h=>by rw [KM hok hx,h]
   have hvf:Pd q x=if D5 x.name&&(decide (x.params.length≤6)&&x.params.all D5) then vEx 40 q x.body else none:=by
    unfold Pd NH;rw [Bool.and_assoc]
   generalize (decide (x.params.length≤6)&&x.params.all D5)=bp at hps hvf
   cases h1:D5 x.name with
   |false=>
    rw [h1] at hnm hvf
    obtain ⟨nm,ps,o,n,u,ns,ks,al⟩:=x
    simp only [FE.enc,Ex.A2] at he hnm
    (repeat' (first|refine Run.ct rfl ?_|((first|refine Run.reg mixed ?_|refine Run.AJ ?_|(refine Run.Ad DM (σ2:=σ) (hσ _) ?_)|refine AH.det (hnm) ?_)<;>try simp -implicitDefEqProofs only [BZ hlt,he,AG,go_sem])|fail))
    rw [hres,hno hvf];rfl
   |true=>
   rw [h1] at hnm
   cases bp with
   |false=>
    rw [h1] at hvf
    obtain ⟨nm,ps,o,n,u,ns,ks,al⟩:=x
    simp only [FE.enc,Ex.A2] at he hnm hps
    (repeat' (first|refine Run.ct rfl ?_|((first|refine Run.reg mixed ?_|refine Run.AJ ?_|(refine Run.Ad DM (σ2:=σ) (hσ _) ?_)|refine AH.det (hnm) ?_|refine AH.det (hps) ?_)<;>try simp -implicitDefEqProofs only [BZ hlt,he,AG,go_sem])|fail))
    rw [hres,hno hvf];rfl
   |true=>
   rw [h1] at hvf
   cases hv:vEx 40 q x.body with
   |some r=>
    have hr:=Su _ _ _ _ hv
    rw [hv] at hvf
    have hc:=VXQ.yes hc hv
    have hs:=hyes r hvf
    obtain ⟨nm,ps,o,n,u,ns,ks,al⟩:=x
    simp only [FE.enc,Ex.A2,exA,AF,AI] at he hnm hps hc
    (repeat' (first|refine Run.ct rfl ?_|((first|refine Run.reg mixed ?_|refine Run.AJ ?_|(refine AH.mk rfl hc ?_;rintro _ _ ⟨rfl,rfl⟩)|refine AH.det (hnm) ?_|refine AH.det (hps) ?_)<;>try simp -implicitDefEqProofs only [BZ hlt,he,hw1,AG,go_sem])|fail))
    exact ih (i+1,r) ⟨by simp only;omega,by simp only;omega,hs⟩ (by simp only;omega)
   |none=>
    rw [hv] at hvf
    have hc:=VXQ.no hc hv
    obtain ⟨nm,ps,o,n,u,ns,ks,al⟩:=x
    simp only [FE.enc,Ex.A2,exA,AF,AI] at he hnm hps hc
    (repeat' (first|refine Run.ct rfl ?_|((first|refine Run.reg mixed ?_|refine Run.AJ ?_|(refine AH.mk rfl hc ?_;rintro _ _ ⟨rfl,z,rfl⟩)|(refine Run.Ad DM (σ2:=σ) (hσ _) ?_)|refine AH.det (hnm) ?_|refine AH.det (hps) ?_)<;>try simp -implicitDefEqProofs only [BZ hlt,he,hw1,AG,go_sem])|fail))
    rw [hres,hno hvf];rfl
 · rw [A8 (by omega)] at hok
   (repeat' (first|refine Run.ct rfl ?_|((first|refine Run.reg mixed ?_|refine Run.AJ ?_|(refine Run.Ad DM (σ2:=σ) (hσ _) ?_))<;>try simp -implicitDefEqProofs only [FD hlt,AG,go_sem])|fail))
   rw [hres,hok];rfl
set_option maxHeartbeats 4000000 in
theorem iG (p:Pg) (σ:AM) (h:∀d∈p.data,eV d):AP Tryz.prog 20 [pgA p] σ (fun v σ'=>v= .d (.bool (C0 p))∧σ'=σ):=by
 obtain ⟨ds,fs⟩:=p
 refine kO (by simp) ?_
 rw [Av,pgA]
 simp only [Pg.enc,AF,AI] at h ⊢
 have h12:decide ((12:Int) < (ds.length:Int))=!decide (ds.length≤12):=gtN _ 12
 have h24:decide ((24:Int) < (fs.length:Int))=!decide (fs.length≤24):=gtN _ 24
 by_cases hd:ds.length≤12
 case neg=>
  (repeat' (first|refine Run.ct rfl ?_|((first|refine Run.reg mixed ?_|refine Run.AJ ?_|refine Run.Ad DM (AM.le_refl _) ?_)<;>try simp -implicitDefEqProofs only [AG,h12,decide_eq_false hd,go_sem])|fail))
  simp [C0,hd]
 by_cases hf:fs.length≤24
 case neg=>
  (repeat' (first|refine Run.ct rfl ?_|((first|refine Run.reg mixed ?_|refine Run.AJ ?_|refine Run.Ad DM (AM.le_refl _) ?_)<;>try simp -implicitDefEqProofs only [AG,h12,decide_eq_true hd,h24,decide_eq_false hf,go_sem])|fail))
  simp [C0,hf]
 have hres:C0 ⟨ds,fs⟩=(ds.all Gq&&(fs.foldlM Pd 600).isSome):=by simp [C0,hd,hf]
 have hbad:∀d∈ds,Gq d=false→C0 ⟨ds,fs⟩=false:=fun d hm hb=>by
  rw [hres,List.all_eq_false.2 ⟨d,hm,by simp [hb]⟩];rfl
 (repeat' (first|refine Run.ct rfl ?_|((first|refine Run.reg mixed ?_|refine Run.AJ ?_)<;>try simp -implicitDefEqProofs only [AG,h12,decide_eq_true hd,h24,decide_eq_true hf,go_sem])|fail))
 refine Run.Ba ?_
 refine Run.Bd ((fun (a1:AV)=>fun (i:Nat)=>put 1 a1 (put 3 (.d (.int .i64 i)) U)) _) (fun _=>B8 1 [.d (.sl (ds.map DE.enc)),.d (.sl (fs.map FE.enc))] E) (fun _=>σ) (fun i=>i≤ds.length∧(ds.take i).all Gq=true) (fun i=>ds.length - i) ?_ 0 ⟨by simp,by simp⟩
 rintro i ⟨hi,hok⟩ ih
 by_cases hlt:i < ds.length
 · obtain ⟨x,hx⟩:=C7 hlt
   have hxm:=Ae hx
   have he:=CR (enc:=DE.enc) hx
   have hw1:=BU (show i+1≤9000000000000000000 by omega)
   have hxs:=h x hxm
   have hbx:=hbad x hxm
   have hs:=fun hp=>Kg (p:=Gq) hok hx hp
   have hnm:=DP x.name 2 σ
   rw [show GS 2 x.name=upperB x.name from rfl] at hnm
   have hbs:=Ik x.vars true σ
   rw [Rk] at hbs
   have h8:decide ((8:Int) < (x.cons.length:Int))=!decide (x.cons.length≤8):=gtN _ 8
   have hl1:decide ((x.cons.length:Int) < 1)=!decide (1≤x.cons.length):=by
    rw [Dn];simp only [decide_eq_true_eq,CS,decide_eq_false_iff_not];omega
   have hdx:Gq x=(((upperB x.name&&(decide (x.vars.length≤6)&&x.vars.all D5))&&(decide (1≤x.cons.length)&&decide (x.cons.length≤8)))&&x.cons.all Ru):=by
    simp [Gq,Bool.and_assoc]
   obtain ⟨nm,vs,cs⟩:=x
   simp only [DE.enc] at he hnm hbs h8 hl1 hdx hxs
   cases hA:upperB nm with
   |false=>
    rw [hA] at hnm hdx
    (repeat' (first|refine Run.ct rfl ?_|((first|refine Run.reg mixed ?_|refine Run.AJ ?_|refine Run.Ad DM (AM.le_refl _) ?_|refine AH.det (hnm) ?_)<;>try simp -implicitDefEqProofs only [BZ hlt,he,AG,go_sem])|fail))
    rw [hbx hdx]
   |true=>
   rw [hA] at hnm
   cases hB:(decide (vs.length≤6)&&vs.all D5) with
   |false=>
    rw [hB] at hbs
    rw [hA,hB] at hdx
    (repeat' (first|refine Run.ct rfl ?_|((first|refine Run.reg mixed ?_|refine Run.AJ ?_|refine Run.Ad DM (AM.le_refl _) ?_|refine AH.det (hnm) ?_|refine AH.det (hbs) ?_)<;>try simp -implicitDefEqProofs only [BZ hlt,he,AG,go_sem])|fail))
    rw [hbx hdx]
   |true=>
   rw [hB] at hbs
   by_cases hC:1≤cs.length
   case neg=>
    rw [decide_eq_false hC] at hl1 hdx
    (repeat' (first|refine Run.ct rfl ?_|((first|refine Run.reg mixed ?_|refine Run.AJ ?_|refine Run.Ad DM (AM.le_refl _) ?_|refine AH.det (hnm) ?_|refine AH.det (hbs) ?_)<;>try simp -implicitDefEqProofs only [BZ hlt,he,AG,hl1,go_sem])|fail))
    rw [hbx (by rw [hdx];simp)]
   rw [decide_eq_true hC] at hl1
   by_cases hD:cs.length≤8
   case neg=>
    rw [decide_eq_false hD] at h8 hdx
    (repeat' (first|refine Run.ct rfl ?_|((first|refine Run.reg mixed ?_|refine Run.AJ ?_|refine Run.Ad DM (AM.le_refl _) ?_|refine AH.det (hnm) ?_|refine AH.det (hbs) ?_)<;>try simp -implicitDefEqProofs only [BZ hlt,he,AG,hl1,h8,go_sem])|fail))
    rw [hbx (by rw [hdx];simp)]
   rw [decide_eq_true hD] at h8
   rw [hA,hB,decide_eq_true hC,decide_eq_true hD] at hdx
   simp only [Bool.and_self,BJ] at hdx
   rw [hdx] at hbx hs
   (repeat' (first|refine Run.ct rfl ?_|((first|refine Run.reg mixed ?_|refine Run.AJ ?_|refine AH.det (hnm) ?_|refine AH.det (hbs) ?_)<;>try simp -implicitDefEqProofs only [BZ hlt,he,AG,hl1,h8,go_sem])|fail))
   refine Run.Ba ?_
   refine Run.Bd ((fun (a1:AV) (a3:AV) (a4:AV)=>fun (k:Nat)=>put 1 a1 (put 3 a3 (put 4 a4 (put 5 (.d (.int .i64 k)) U)))) _ _ _) (fun _=>B8 1 [.d (.sl (ds.map DE.enc)),.d (.sl (fs.map FE.enc))] (B8 4 [.d (.str nm),.d (.sl (vs.map B0)),.d (.sl (cs.map CE.enc))] E)) (fun _=>σ) (fun k=>k≤cs.length∧(cs.take k).all Ru=true) (fun k=>cs.length - k) ?_ 0 ⟨by simp,by simp⟩
   rintro k ⟨hk,hokc⟩ ih2
   by_cases hkl:k < cs.length
   · obtain ⟨c,hc⟩:=C7 hkl
     have hcm:=Ae hc
     have hec:=CR (enc:=CE.enc) hc
     have hwk:=BU (show k+1≤9000000000000000000 by omega)
     have hcs:=hxs c hcm
     have hbc:Ru c=false→C0 ⟨ds,fs⟩=false:=fun hb=>hbx (List.all_eq_false.2 ⟨c,hcm,by simp [hb]⟩)
     have hsc:=fun hp=>Kg (p:=Ru) hokc hc hp
     have hcn:=DP c.name 2 σ
     rw [show GS 2 c.name=upperB c.name from rfl] at hcn
     have h6:decide ((6:Int) < (c.args.length:Int))=!decide (c.args.length≤6):=gtN _ 6
     have hcx:Ru c=(upperB c.name&&decide (c.args.length≤6)&&c.args.all (Bo 40)):=rfl
     obtain ⟨cn,ar⟩:=c
     simp only [CE.enc] at hec hcn h6 hcx hcs
     cases hE:upperB cn with
     |false=>
      rw [hE] at hcn hcx
      (repeat' (first|refine Run.ct rfl ?_|((first|refine Run.reg mixed ?_|refine Run.AJ ?_|refine Run.Ad DM (AM.le_refl _) ?_|refine AH.det (hcn) ?_)<;>try simp -implicitDefEqProofs only [BZ hkl,hec,AG,go_sem])|fail))
      rw [hbc hcx]
     |true=>
     rw [hE] at hcn
     by_cases hF:ar.length≤6
     case neg=>
      rw [decide_eq_false hF] at h6 hcx
      (repeat' (first|refine Run.ct rfl ?_|((first|refine Run.reg mixed ?_|refine Run.AJ ?_|refine Run.Ad DM (AM.le_refl _) ?_|refine AH.det (hcn) ?_)<;>try simp -implicitDefEqProofs only [BZ hkl,hec,AG,h6,go_sem])|fail))
      rw [hbc (by rw [hcx];simp)]
     rw [decide_eq_true hF] at h6
     rw [hE,decide_eq_true hF] at hcx
     simp only [Bool.and_self,BJ] at hcx
     rw [hcx] at hbc hsc
     (repeat' (first|refine Run.ct rfl ?_|((first|refine Run.reg mixed ?_|refine Run.AJ ?_|refine AH.det (hcn) ?_)<;>try simp -implicitDefEqProofs only [BZ hkl,hec,AG,h6,go_sem])|fail))
     refine Run.Ba ?_
     refine Run.Bd ((fun (a1:AV) (a3:AV) (a4:AV) (a5:AV)=>fun (a:Nat)=>put 1 a1 (put 3 a3 (put 4 a4 (put 5 a5 (put 6 (.d (.int .i64 a)) U))))) _ _ _ _) (fun _=>B8 1 [.d (.sl (ds.map DE.enc)),.d (.sl (fs.map FE.enc))] (B8 4 [.d (.str nm),.d (.sl (vs.map B0)),.d (.sl (cs.map CE.enc))] E)) (fun _=>σ) (fun a=>a≤ar.length∧(ar.take a).all (Bo 40)=true) (fun a=>ar.length - a) ?_ 0 ⟨by simp,by simp⟩
     rintro a ⟨ha,hoka⟩ ih3
     by_cases hal:a < ar.length
     · obtain ⟨t,ht⟩:=C7 hal
       have htm:=Ae ht
       have het:=CR (enc:=TE.enc) ht
       have hwa:=BU (show a+1≤9000000000000000000 by omega)
       have hv:=XS 40 t σ (A9 _) (hcs t htm)
       rw [show ((40:Nat):Int)=40 from rfl] at hv
       cases hp:Bo 40 t with
       |true=>
        rw [hp] at hv
        obtain ⟨tk,tn,tl⟩:=t
        simp only [TE.A2,teA,AF,AI] at het hv
        (repeat' (first|refine Run.ct rfl ?_|((first|refine Run.reg mixed ?_|refine Run.AJ ?_|refine AH.det (hv) ?_)<;>try simp -implicitDefEqProofs only [BZ hal,hec,het,hwa,AG,go_sem])|fail))
        exact ih3 (a+1) ⟨by omega,Kg hoka ht hp⟩ (by omega)
       |false=>
        rw [hp] at hv
        obtain ⟨tk,tn,tl⟩:=t
        simp only [TE.A2,teA,AF,AI] at het hv
        (repeat' (first|refine Run.ct rfl ?_|((first|refine Run.reg mixed ?_|refine Run.AJ ?_|refine Run.Ad DM (AM.le_refl _) ?_|refine AH.det (hv) ?_)<;>try simp -implicitDefEqProofs only [BZ hal,hec,het,hwa,AG,go_sem])|fail))
        rw [hbc (Xx ht hp)]
     · rw [A8 (by omega)] at hoka
       (repeat' (first|refine Run.ct rfl ?_|((first|refine Run.reg mixed ?_|refine Run.AJ ?_)<;>try simp -implicitDefEqProofs only [FD hal,hec,hwk,AG,go_sem])|fail))
       exact ih2 (k+1) ⟨by omega,hsc hoka⟩ (by omega)
   · rw [A8 (by omega)] at hokc
     (repeat' (first|refine Run.ct rfl ?_|((first|refine Run.reg mixed ?_|refine Run.AJ ?_)<;>try simp -implicitDefEqProofs only [FD hkl,hw1,AG,go_sem])|fail))
     exact ih (i+1) ⟨by omega,hs hokc⟩ (by omega)
 · rw [A8 (by omega)] at hok
   rw [hok,BJ] at hres
   clear ih
   (repeat' (first|refine Run.ct rfl ?_|((first|refine Run.reg mixed ?_|refine Run.AJ ?_)<;>try simp -implicitDefEqProofs only [FD hlt,AG,go_sem])|fail))
   intro j hj
   obtain ⟨hle3,hb⟩:=sB (z:=[.d (.int .i64 0)]) (x:=([AV.d (.int .i64 0)].length,3)) hj
   simp only [AB,AE,Bb] at hle3 hb
   generalize (σ.AL j [.d (.int .i64 0)]).GG j (1,3)=σ3 at hle3 hb ⊢
   simp -implicitDefEqProofs only [hb,go_sem]
   (repeat' (first|refine Run.ct rfl ?_|((first|refine Run.reg mixed ?_|refine Run.AJ ?_)<;>try simp -implicitDefEqProofs only [hb,AG,go_sem])|fail))
   exact ZI ds fs σ (σ3.AL j [.d (.int .i64 600)]) j (k6 hle3 hj.1) (by simp only [AO,if_true]) hj.1 hres hf
end Go.Ab
namespace Go.Ab
open Go.Proofs
theorem vO {s:Str} {k:Int} {t:Str} (h:Da s= .ok (k,t)) (hl:s.length≤20000) (hk:k=3):hG t:=by
 match s,h with
 |b::r,h=>
  simp only [Da] at h
  split at h
  · split at h
    · cases h
    · split at h
      · cases h;omega
      · split at h<;>(cases h;omega)
  · split at h
    · rename_i hd
      split at h
      · cases h
      · split at h
        · rename_i hv
          simp only [Gw,B7] at h
          obtain ⟨_,rfl⟩:=h
          refine .inr ⟨?_,sA,hv,BD (El _ _) hl⟩
          rw [F5,if_pos (show CP Em b=true from hd)];simp
        · cases h
    · split at h
      · cases h
      · cases h;omega
theorem Xf:∀(n:Nat) (rest:Str) (i:Nat) (acc:List Tok),rest.length≤20000→NOk acc→(D6 n rest i acc).2.2=0→NOk (D6 n rest i acc).1
 |0,rest,i,acc,_,_,_=>fun t ht=>by cases ht
 |n+1,[],i,acc,_,ha,_=>fun t ht hk=>by
  rcases BW.1 ht with ht|ht
  · exact ha t ht hk
  · rw [Dv] at ht;subst ht;cases hk
 |n+1,b::r,i,acc,hl,ha,h=>by
  rw [D6] at h ⊢
  split at h
  · rename_i hb
    rw [if_pos hb]
    exact Xf n r (i+1) acc (by simp at hl;omega) ha h
  · rename_i hb
    rw [if_neg hb]
    split at h
    · rename_i hc
      rw [if_pos hc]
      exact Xf n _ _ acc (by rw [An];omega) ha h
    · rename_i hc
      rw [if_neg hc]
      cases hs:Da (b::r) with
      |error e=>
       rw [hs] at h
       simp only at h
       rcases P4 hs with rfl|rfl<;>cases h
      |ok x=>
       obtain ⟨k,t⟩:=x
       rw [hs] at h
       simp only at h ⊢
       refine Xf n _ _ _ (by rw [An];omega) (fun u hu hk=>?_) h
       rcases BW.1 hu with hu|hu
       · exact ha u hu hk
       · rw [Dv] at hu;subst hu;exact vO hs hl hk
theorem rJ {s:Str} (h:(BL s).2.2=0):NOk (BL s).1:=by
 unfold BL at h ⊢
 split at h
 · cases h
 · rename_i hl
   rw [if_neg hl]
   exact Xf _ s 0 [] (by omega) (fun t ht=>by cases ht) h
theorem AA0 (i:Nat) (L:List Tok):PC 129 [.gp i 0] i L BK hU ceA:=by
 intro σ s0 g0 h0 l0 b0
 refine T1 (by simp) ?_
 rw [Av]
 simp only [hU,tyR,run_bind,run_pure,ceA,CE.enc,AF,AI]
 (have c0:=(Ss i L BK) σ s0 g0 h0 (by omega) b0;have h1:=h0.run (FY);have l1:=PM.le (FY) h0.wf;generalize (FY).run s0=y at c0 h1 l1 ⊢;obtain ⟨x0,s1⟩:=y;simp only at c0 h1 l1 ⊢;have b1:(σ.AL i (psA L s1)).blk i=some (psA L s1):=(by rw [AO,if_pos rfl]))
 (have c1:=((JZ i L BK Y7 (wB i L BK)).pc.mono (Nat.le_succ BK)) (σ.AL i (psA L s1)) s1 g0 h1 (by omega) b1;rw [A4] at c1;have h2:=h1.run (IZ (Fy BK));have l2:=PM.le (IZ (Fy BK)) h1.wf;generalize (IZ (Fy BK)).run s1=y at c1 h2 l2 ⊢;obtain ⟨x1,s2⟩:=y;simp only at c1 h2 l2 ⊢;have b2:(σ.AL i (psA L s2)).blk i=some (psA L s2):=(by rw [AO,if_pos rfl]))
 (repeat' (first|refine Run.ct rfl ?_|((first|refine Run.reg mixed ?_|refine Run.AJ ?_|refine Run.Ad MO (AM.le_refl _) ?_|(refine AH.upd c0 ?_)|(refine AH.upd c1 ?_)|(refine AQ rfl (fun h=>?_) (fun h=>?_)<;>try (cases h;done)))<;>try simp -implicitDefEqProofs only [go_sem])|(refine ⟨fun h=>?_,fun h=>?_⟩<;>first|(cases h;done)|try simp only [h])|fail))
theorem wZ (i:Nat) (L:List Tok):PC 66 [.gp i 0] i L BK UI deA:=by
 intro σ s0 g0 h0 l0 b0
 refine SI (by simp) ?_
 rw [Av]
 simp only [UI,run_bind,run_pure,deA,DE.enc,AF,AI]
 (have c0:=(Ss i L BK) σ s0 g0 h0 (by omega) b0;have h1:=h0.run (FY);have l1:=PM.le (FY) h0.wf;generalize (FY).run s0=y at c0 h1 l1 ⊢;obtain ⟨x0,s1⟩:=y;simp only at c0 h1 l1 ⊢;have b1:(σ.AL i (psA L s1)).blk i=some (psA L s1):=(by rw [AO,if_pos rfl]))
 (have c1:=((PK i L BK dN (QR i L BK)).pc.mono (Nat.le_succ BK)) (σ.AL i (psA L s1)) s1 g0 h1 (by omega) b1;rw [A4] at c1;have h2:=h1.run (IZ Fj);have l2:=PM.le (IZ Fj) h1.wf;generalize (IZ Fj).run s1=y at c1 h2 l2 ⊢;obtain ⟨x1,s2⟩:=y;simp only at c1 h2 l2 ⊢;have b2:(σ.AL i (psA L s2)).blk i=some (psA L s2):=(by rw [AO,if_pos rfl]))
 (have c2:=(DL i L BK [61] (by decide)) (σ.AL i (psA L s2)) s2 g0 h2 (by omega) b2;rw [A4] at c2;have h3:=h2.run (PM.exp [61] (by decide));have l3:=PM.le (PM.exp [61] (by decide)) h2.wf;generalize (PM.exp [61] (by decide)).run s2=y at c2 h3 l3 ⊢;obtain ⟨x2,s3⟩:=y;simp only at c2 h3 l3 ⊢;have b3:(σ.AL i (psA L s3)).blk i=some (psA L s3):=(by rw [AO,if_pos rfl]))
 (have c3:=(SY i L BK ABC (AA0 i L) [124] (by decide)).pc (σ.AL i (psA L s3)) s3 g0 h3 (by omega) b3;rw [A4] at c3;have h4:=h3.run (items hU [124] (by decide));have l4:=PM.le (items hU [124] (by decide)) h3.wf;generalize (items hU [124] (by decide)).run s3=y at c3 h4 l4 ⊢;obtain ⟨x3,s4⟩:=y;simp only at c3 h4 l4 ⊢;have b4:(σ.AL i (psA L s4)).blk i=some (psA L s4):=(by rw [AO,if_pos rfl]))
 (have c4:=(DL i L BK [59] (by decide)) (σ.AL i (psA L s4)) s4 g0 h4 (by omega) b4;rw [A4] at c4;have h5:=h4.run (PM.exp [59] (by decide));have l5:=PM.le (PM.exp [59] (by decide)) h4.wf;generalize (PM.exp [59] (by decide)).run s4=y at c4 h5 l5 ⊢;obtain ⟨x4,s5⟩:=y;simp only at c4 h5 l5 ⊢;have b5:(σ.AL i (psA L s5)).blk i=some (psA L s5):=(by rw [AO,if_pos rfl]))
 (repeat' (first|refine Run.ct rfl ?_|((first|refine Run.reg mixed ?_|refine Run.AJ ?_|refine Run.Ad LH (AM.le_refl _) ?_|(refine AH.upd c0 ?_)|(refine AH.upd c1 ?_)|(refine AH.upd c2 ?_)|(refine AH.upd c3 ?_)|(refine AH.upd c4 ?_)|(refine AQ rfl (fun h=>?_) (fun h=>?_)<;>try (cases h;done)))<;>try simp -implicitDefEqProofs only [go_sem])|(refine ⟨fun h=>?_,fun h=>?_⟩<;>first|(cases h;done)|try simp only [h])|fail))
theorem AA8 (i:Nat) {L:List Tok} (hN:NOk L):PC 67 [.gp i 0] i L BK aN feA:=by
 intro σ s0 g0 h0 l0 b0
 refine T2 (by simp) ?_
 rw [Av]
 simp only [aN,exR,run_bind,run_pure]
 (have c0:=(QR i L BK) σ s0 g0 h0 (by omega) b0;have h1:=h0.run (Fj);have l1:=PM.le (Fj) h0.wf;generalize (Fj).run s0=y at c0 h1 l1 ⊢;obtain ⟨x0,s1⟩:=y;simp only at c0 h1 l1 ⊢;have b1:(σ.AL i (psA L s1)).blk i=some (psA L s1):=(by rw [AO,if_pos rfl]))
 (have c1:=(DL i L BK [40] (by decide)) (σ.AL i (psA L s1)) s1 g0 h1 (by omega) b1;rw [A4] at c1;have h2:=h1.run (PM.exp [40] (by decide));have l2:=PM.le (PM.exp [40] (by decide)) h1.wf;generalize (PM.exp [40] (by decide)).run s1=y at c1 h2 l2 ⊢;obtain ⟨x1,s2⟩:=y;simp only at c1 h2 l2 ⊢;have b2:(σ.AL i (psA L s2)).blk i=some (psA L s2):=(by rw [AO,if_pos rfl]))
 (have c2:=(Oo i L BK dN (QR i L BK)).pc (σ.AL i (psA L s2)) s2 g0 h2 (by omega) b2;rw [A4] at c2;have h3:=h2.run (closed Fj);have l3:=PM.le (closed Fj) h2.wf;generalize (closed Fj).run s2=y at c2 h3 l3 ⊢;obtain ⟨x2,s3⟩:=y;simp only at c2 h3 l3 ⊢;have b3:(σ.AL i (psA L s3)).blk i=some (psA L s3):=(by rw [AO,if_pos rfl]))
 (have c3:=(DL i L BK [61] (by decide)) (σ.AL i (psA L s3)) s3 g0 h3 (by omega) b3;rw [A4] at c3;have h4:=h3.run (PM.exp [61] (by decide));have l4:=PM.le (PM.exp [61] (by decide)) h3.wf;generalize (PM.exp [61] (by decide)).run s3=y at c3 h4 l4 ⊢;obtain ⟨x3,s4⟩:=y;simp only at c3 h4 l4 ⊢;have b4:(σ.AL i (psA L s4)).blk i=some (psA L s4):=(by rw [AO,if_pos rfl]))
 (have c4:=(nF i hN BK) (σ.AL i (psA L s4)) s4 g0 h4 (by omega) b4;rw [A4] at c4;have h5:=h4.run (CD BK);have l5:=PM.le (CD BK) h4.wf;generalize (CD BK).run s4=y at c4 h5 l5 ⊢;obtain ⟨x4,s5⟩:=y;simp only at c4 h5 l5 ⊢;have b5:(σ.AL i (psA L s5)).blk i=some (psA L s5):=(by rw [AO,if_pos rfl]);obtain ⟨o4,n4,u4,ns4,ks4,al4⟩:=x4;simp only [exA,Ex.A2,AF,AI] at c4 ⊢)
 (have c5:=(DL i L BK [59] (by decide)) (σ.AL i (psA L s5)) s5 g0 h5 (by omega) b5;rw [A4] at c5;have h6:=h5.run (PM.exp [59] (by decide));have l6:=PM.le (PM.exp [59] (by decide)) h5.wf;generalize (PM.exp [59] (by decide)).run s5=y at c5 h6 l6 ⊢;obtain ⟨x5,s6⟩:=y;simp only at c5 h6 l6 ⊢;have b6:(σ.AL i (psA L s6)).blk i=some (psA L s6):=(by rw [AO,if_pos rfl]))
 simp only [feA,FE.enc,Ex.A2,AF,AI]
 (repeat' (first|refine Run.ct rfl ?_|((first|refine Run.reg mixed ?_|refine Run.AJ ?_|refine Run.Ad MP (AM.le_refl _) ?_|(refine AH.upd c0 ?_)|(refine AH.upd c1 ?_)|(refine AH.upd c2 ?_)|(refine AH.upd c3 ?_)|(refine AH.upd c4 ?_)|(refine AH.upd c5 ?_)|(refine AQ rfl (fun h=>?_) (fun h=>?_)<;>try (cases h;done)))<;>try simp -implicitDefEqProofs only [go_sem])|(refine ⟨fun h=>?_,fun h=>?_⟩<;>first|(cases h;done)|try simp only [h])|fail))
theorem Xl.of {σ τ:AM} {i e z:Nat} {rows:List (List DV)} {v:AV} (hg:Xl σ) (h:EW (σ.DI i) e z rows v τ):Xl τ:=by
 obtain ⟨te,pe,he⟩:=hg
 exact ⟨te,pe,by rw [← h.le.gt];exact he⟩
set_option maxHeartbeats 2000000 in
theorem lR (i:Nat) {L:List Tok} (hN:NOk L):PC 28 [.gp i 0] i L BK NT pgA:=by
 intro σ s0 g0 h0 l0 b0
 refine PA (by simp) ?_
 rw [Av]
 (repeat' (first|refine Run.ct rfl ?_|((first|refine Run.reg mixed ?_|refine Run.AJ ?_|(refine AQ rfl (fun h=>?_) (fun h=>?_)<;>try (cases h;done)))<;>try simp -implicitDefEqProofs only [go_sem])|(refine ⟨fun h=>?_,fun h=>?_⟩<;>first|(cases h;done)|try simp only [h])|fail))
 refine Run.Ba ?_
 have hf0:=Fb
 have hl0:=h0.suf.length_le
 have hl1:=h0.len
 have hdel:(σ.DI i).le σ:=⟨fun j c hj=>by
  have:j≠i:=fun e=>by rw [e] at hj;simp [AM.DI] at hj
  simpa [AM.DI,this] using hj,fun _ h=>h,rfl,fun _ _ h=>h⟩
 refine Run.Bd (α:=PSt×List DE×List FE×Nat×AV×AV×AM) (fun _=>put 0 (.gp i 0) (put 2 (.lp 2 0) (put 3 (.lp 3 0) U))) (fun y=>B8 2 [.AY,.AY] (B8 3 [y.2.2.2.2.1,y.2.2.2.2.2.1] Ab.E)) (fun y=>y.2.2.2.2.2.2)
  (fun y=>POk L y.1∧y.1.r.length≤y.2.2.2.1∧y.2.1.length+y.2.2.1.length+y.1.r.length≤17000∧EW (σ.DI i) 61 3 (y.2.1.map DE.enc) y.2.2.2.2.1 y.2.2.2.2.2.2∧EW (σ.DI i) 66 8 (y.2.2.1.map FE.enc) y.2.2.2.2.2.1 y.2.2.2.2.2.2∧Xj y.2.2.2.2.1 y.2.2.2.2.2.1∧y.2.2.2.2.2.2.blk i=some (psA L y.1)∧(MS y.2.2.2.1 y.2.1 y.2.2.1).run y.1=NT.run s0) (fun y=>y.1.r.length) ?_ (s0,[],[],BK,.AY,.AY,σ)
  ⟨h0,by simp only;omega,by simp;omega,EW.mono (EW.nil σ _ _) hdel,EW.mono (EW.nil σ _ _) hdel,jR _,b0,rfl⟩
 rintro ⟨s2,ds,fs,q,vd,vf,τ⟩ ⟨p1,p2,p3,p4,p5,p6,p7,p8⟩ ih
 simp only at p1 p2 p3 p4 p5 p6 p7 p8
 obtain ⟨q,rfl⟩:∃m,q=m+1:=⟨q - 1,by have:=Aq.2 p1.wf.ne;omega⟩
 rw [vF] at p8
 have hpk:=QU p1 τ p7
 have hgt:Xl τ:=g0.of p4
 have hn1:vd.BR 3=false:=p4.BR 3
 cases hk:s2.hd.kind==6 with
 |true=>
  rw [hk,if_pos rfl] at p8
  rw [← p8]
  have hne:(s2.hd.kind != 6)=false:=by unfold bne;rw [hk];rfl
  simp only [pgA,Pg.enc,AF,AI]
  have hle:=(LS.mk p4 p7:LS σ i L s2 _ _ _ _ _).le
  (repeat' (first|refine Run.ct rfl ?_|((first|refine Run.reg mixed ?_|refine Run.AJ ?_|(refine Run.Ad Ie hle ?_)|refine AH.det (hpk) ?_|(refine AQ rfl (fun h=>?_) (fun h=>?_)<;>try (cases h;done)))<;>try simp -implicitDefEqProofs only [hne,p4.BR,p5.BR,p4.Ay,p5.Ay,p4.cell,p5.cell,p4.plain,p5.plain,if_true,go_sem])|(refine ⟨fun h=>?_,fun h=>?_⟩<;>first|(cases h;done)|try simp only [h])|fail))
 |false=>
  have hne:(s2.hd.kind != 6)=true:=by unfold bne;rw [hk];rfl
  rw [hk,if_neg (by decide)] at p8
  cases t1:s2.hd.text==[100,97,116,97] with
  |true=>
   rw [t1,if_pos rfl] at p8
   have c1:=DK p1 _ τ p7 t1
   have h3:=p1.adv (t:=[100,97,116,97]) (by decide) t1
   have l3:=BX p1.wf
   generalize s2.adv=s3 at c1 h3 l3 p8
   have c2:=wZ i L (τ.AL i (psA L s3)) s3 hgt h3 (by omega) (by rw [AO,if_pos rfl])
   rw [A4] at c2
   have h4:=h3.run UI
   have l4:=PM.le UI h3.wf
   generalize UI.run s3=y at c2 h4 l4 p8
   obtain ⟨d,s4⟩:=y
   simp only at c2 h4 l4 p8
   obtain ⟨dn,dv,dc⟩:=d
   simp only [deA,DE.enc,AF,AI] at c2
   have q4:=p4.l9 (Mz σ i) (psA L s4)
   have q5:=p5.l9 (Mz σ i) (psA L s4)
   (repeat' (first|refine Run.ct rfl ?_|((first|refine Run.reg mixed ?_|refine Run.AJ ?_|(refine AH.upd c1 ?_)|(refine AH.upd c2 ?_)|refine AH.det (hpk) ?_|(refine AQ rfl (fun h=>?_) (fun h=>?_)<;>try (cases h;done)))<;>try simp -implicitDefEqProofs only [hne,p4.BR,p5.BR,p4.cell,p5.cell,p4.cells,p5.cells,if_true,go_sem])|(refine ⟨fun h=>?_,fun h=>?_⟩<;>first|(cases h;done)|try simp only [h])|fail))
   (apply Kf.ADH (cx:=Bl) q4;rfl;simp;(simp only [AG,AB,AE];omega);decide;intro v2 τ2 ho hbk hkp)
   obtain ⟨r5,r6⟩:=hkp _ _ _ _ q5 p6
   simp -implicitDefEqProofs only [ho.BR,ho.Ay,ho.cells,ho.cell,p4.cell,p5.cell,if_true,go_sem]
   (repeat' (first|refine Run.ct rfl ?_|((first|refine Run.reg mixed ?_|refine Run.AJ ?_|(refine AQ rfl (fun h=>?_) (fun h=>?_)<;>try (cases h;done)))<;>try simp -implicitDefEqProofs only [ho.BR,ho.Ay,ho.cells,ho.cell,go_sem])|(refine ⟨fun h=>?_,fun h=>?_⟩<;>first|(cases h;done)|try simp only [h])|fail))
   refine ih (s4,ds++[⟨dn,dv,dc⟩],fs,q,v2,vf,τ2) ⟨h4,by simp only;omega,by simp only [AA,AB,AE];omega,?_,r5,r6,by simp [hbk,AO],p8⟩ (by simp only;omega)
   simp only [Bp,AF,AI,DE.enc]
   exact ho
  |false=>
  have f1:=DJ p1 _ τ p7 t1
  rw [t1,if_neg (by decide)] at p8
  cases t2:s2.hd.text==[102,117,110] with
  |true=>
   rw [t2,if_pos rfl] at p8
   have c1:=DK p1 _ τ p7 t2
   have h3:=p1.adv (t:=[102,117,110]) (by decide) t2
   have l3:=BX p1.wf
   generalize s2.adv=s3 at c1 h3 l3 p8
   have c2:=AA8 i hN (τ.AL i (psA L s3)) s3 hgt h3 (by omega) (by rw [AO,if_pos rfl])
   rw [A4] at c2
   have h4:=h3.run aN
   have l4:=PM.le aN h3.wf
   generalize aN.run s3=y at c2 h4 l4 p8
   obtain ⟨d,s4⟩:=y
   simp only at c2 h4 l4 p8
   obtain ⟨fn,fp,fb⟩:=d
   obtain ⟨o0,n0,u0,ns0,ks0,al0⟩:=fb
   simp only [feA,FE.enc,Ex.A2,AF,AI] at c2
   have q4:=p4.l9 (Mz σ i) (psA L s4)
   have q5:=p5.l9 (Mz σ i) (psA L s4)
   (repeat' (first|refine Run.ct rfl ?_|((first|refine Run.reg mixed ?_|refine Run.AJ ?_|(refine AH.upd c1 ?_)|(refine AH.upd c2 ?_)|refine AH.det (hpk) ?_|refine AH.det (f1) ?_|(refine AQ rfl (fun h=>?_) (fun h=>?_)<;>try (cases h;done)))<;>try simp -implicitDefEqProofs only [hne,p4.BR,p5.BR,p4.cell,p5.cell,p4.cells,p5.cells,if_true,go_sem])|(refine ⟨fun h=>?_,fun h=>?_⟩<;>first|(cases h;done)|try simp only [h])|fail))
   (apply Kf.ADH (cx:=Bl) q5;rfl;simp;(simp only [AG,AB,AE];omega);decide;intro v2 τ2 ho hbk hkp)
   obtain ⟨r5,r6⟩:=hkp _ _ _ _ q4 p6.symm
   simp -implicitDefEqProofs only [ho.BR,ho.Ay,ho.cells,ho.cell,p4.cell,p5.cell,if_true,go_sem]
   (repeat' (first|refine Run.ct rfl ?_|((first|refine Run.reg mixed ?_|refine Run.AJ ?_|(refine AQ rfl (fun h=>?_) (fun h=>?_)<;>try (cases h;done)))<;>try simp -implicitDefEqProofs only [ho.BR,ho.Ay,ho.cells,ho.cell,go_sem])|(refine ⟨fun h=>?_,fun h=>?_⟩<;>first|(cases h;done)|try simp only [h])|fail))
   refine ih (s4,ds,fs++[⟨fn,fp,.mk o0 n0 u0 ns0 ks0 al0⟩],q,vd,v2,τ2) ⟨h4,by simp only;omega,by simp only [AA,AB,AE];omega,r5,?_,r6.symm,by simp [hbk,AO],p8⟩ (by simp only;omega)
   simp only [Bp,AF,AI,FE.enc,Ex.A2]
   exact ho
  |false=>
  have f2:=DJ p1 _ τ p7 t2
  rw [t2,if_neg (by decide)] at p8
  have c1:=VM p1 τ p7
  have h3:=p1.fail
  have l3:=fY p1.wf
  have h2':=AB7 p1.wf hk
  have q4:=p4.l9 (Mz σ i) (psA L s2.fail)
  have q5:=p5.l9 (Mz σ i) (psA L s2.fail)
  (repeat' (first|refine Run.ct rfl ?_|((first|refine Run.reg mixed ?_|refine Run.AJ ?_|(refine AH.upd c1 ?_)|refine AH.det (hpk) ?_|refine AH.det (f1) ?_|refine AH.det (f2) ?_|(refine AQ rfl (fun h=>?_) (fun h=>?_)<;>try (cases h;done)))<;>try simp -implicitDefEqProofs only [hne,p4.BR,p5.BR,p4.cell,p5.cell,p4.cells,p5.cells,if_true,go_sem])|(refine ⟨fun h=>?_,fun h=>?_⟩<;>first|(cases h;done)|try simp only [h])|fail))
  exact ih (s2.fail,ds,fs,q,vd,vf,_) ⟨h3,by simp only;omega,by simp only;omega,q4,q5,p6,by simp [AO],p8⟩ (by simp only;omega)
end Go.Ab
