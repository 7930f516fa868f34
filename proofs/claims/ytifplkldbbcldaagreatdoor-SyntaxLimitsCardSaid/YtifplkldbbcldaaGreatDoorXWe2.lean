/- Several owned slices side by side. Valid programs, as the reference looks at them. The parser: declarations, programs, Parse. Conditions: none. -/
import Derived.Test.YtifplkldbbcldaaGreatDoorXPi
set_option linter.unusedSimpArgs false
set_option linter.unusedVariables false
set_option maxRecDepth 4000
set_option maxHeartbeats 8000000
open Nat renaming mul_le_mul→ON,le_refl→A7,zero_add→B5,le_trans→BC
open Option.some renaming injEq→AP
open List renaming length_map→AE,map_cons→AF,map_nil→AI,take_of_length_le→A8,mem_of_getElem?→Af,length_cons→AD,length_nil→AG,takeWhile_cons→FT,mem_append→BS,mem_singleton→Di,length_drop→Ai,length_pos_iff→Ar,length_append→AA,map_append→Bj
open Bool renaming eq_iff_iff→Dd,not_eq_true'→CJ,true_and→BE
open Except.ok renaming injEq→Gb
open Prod.mk renaming injEq→B2
namespace Go.Ab
def iZ:AV→Option Nat
 | .own t _ _ _=>some t
 |_=>none
def Wm (v w:AV):Prop:=∀t,iZ v=some t→iZ w≠some t
theorem Wm.symm {v w:AV} (h:Wm v w):Wm w v:=fun t h1 h2=>h t h2 h1
theorem fH (w:AV):Wm .AX w:=fun t h=>by cases h
theorem EW.VN {σ0 σ σ':AN} {e s:Nat} {rows:List (List DV)} {w:AV} (h:EW σ0 e s rows w σ) (hle:σ0.le σ') (ht:∀t,iZ w=some t→σ.tok t=true→σ'.tok t=true):EW σ0 e s rows w σ':=by
 obtain ⟨⟨σ1,ha,hl⟩,_,h1,h2,h3,h4,h5,h6,h7⟩:=h
 refine ⟨?_,hle,h1,h2,h3,h4,h5,h6,h7⟩
 unfold PL at ha ⊢
 split at ha
 · cases ha;exact ⟨σ',rfl,hle⟩
 · rename_i t e' s' rows'
   split at ha
   · rename_i hc
     cases ha
     obtain ⟨q1,q2,q3⟩:=hc
     refine ⟨σ'.Eu t,by rw [if_pos ⟨q1,q2,ht t rfl q3⟩],⟨hle.blk,fun t' h'=>?_,hle.gt,hle.bt⟩⟩
     have hne:t'≠t:=fun e=>by
      have:=hl.tok t' h'
      simp [AN.Eu,e] at this
     simp [AN.Eu,hne,hle.tok t' h']
   · cases ha
 · cases ha
theorem LP.AAG {cx:Cx} {K:Fm→Lm→AN→Prop} {F:Fm} {L:Lm} {σ σ0:AN} {d:Option Nat} {e size bytes:Nat} {s x:AV} {rows srows:List (List DV)} (ho:EW σ0 e size rows s σ) (h2:x.rows=some srows)
 (h3:∀r∈srows,r.length=size) (h4:rows.length+srows.length≤1000000000) (hb:bytes≤10000)
 (h:∀v σ',EW σ0 e size (rows++srows) v σ'→(∀i,σ'.blk i=σ.blk i)→(∀e2 s2 rows2 w,EW σ0 e2 s2 rows2 w σ→Wm s w→EW σ0 e2 s2 rows2 w σ'∧Wm v w)→K (An d v F) L σ'):LP e size bytes s x d K F L σ:=by
 obtain ⟨σ1,ha,hl⟩:=ho.app
 have hblk:∀i,σ1.blk i=σ.blk i:=fun i=>by
  unfold PL at ha
  split at ha
  · cases ha;rfl
  · split at ha
    · cases ha;rfl
    · cases ha
  · cases ha
 have htok:∀t,iZ s≠some t→σ.tok t=true→σ1.tok t=true:=fun t hne ht=>by
  unfold PL at ha
  split at ha
  · cases ha;exact ht
  · rename_i ts e' s' rows'
    split at ha
    · cases ha
      have:t≠ts:=fun e=>hne (by rw [e];rfl)
      simp [AN.Eu,this,ht]
    · cases ha
  · cases ha
 refine LP.mk ha h2 h3 (by simp only [maxLen];omega) ?_ (fun t ht=>h _ _ (EW.own hl ho.le ht) (fun i=>by rw [Ft];exact hblk i) (fun e2 s2 rows2 w hw hap=>?_))
 · calc (rows.length+srows.length) * bytes≤1000000000 * 10000:=ON h4 hb
    _≤140737488355328:=by decide
 · have hwt:∀t',iZ w=some t'→σ.tok t'=true:=fun t' h'=>by
    obtain ⟨_,hw1,_⟩:=hw.app
    cases w<;>simp only [iZ] at h'<;>try cases h'
    simp only [PL] at hw1
    split at hw1
    · rename_i hc;exact hc.2.2
    · cases hw1
   have hown:=EW.own (e:=e) (s:=size) (rows:=rows++srows) hl ho.le ht
   refine ⟨hw.VN hown.le (fun t' h1 h2=>?_),fun t' h1 h3=>?_⟩
   · have:=htok t' (fun e=>hap t' e h1) h2
     simp [AN.DX,this]
   · simp only [iZ,AP] at h1
     subst h1
     rw [hwt _ h3] at ht;cases ht
end Go.Ab
namespace Go.Ab
open Go.Proofs
set_option maxHeartbeats 4000000 in
theorem YC (ds:List DE) (fs:List FE) (σ σ3:AN) (j:Nat) (hle:σ.le σ3) (hb:σ3.blk j=some [.d (.int .i64 600)]) (hsj:σ.blk j=none) (hres:Cw ⟨ds,fs⟩=(fs.foldlM PG 600).isSome) (hf24:fs.length≤24):
 Run KN (fun v σ'=>v= .d (.bool (Cw ⟨ds,fs⟩))∧σ'=σ) [.code (.loop TJ),.blk 6,.code (.seq (.reg [⟨some 2,.mv (.c (.d (.bool true))),none⟩] [2]) .ret)] (put 1 (.lp 1 0) (put 7 (.gp j 0) (put 8 (.d (.int .i64 0)) U))) (B4 1 [.d (.sl (ds.map DE.enc)),.d (.sl (fs.map FE.enc))] E) σ3:=by
 refine Run.Bb ?_
 refine Run.tE (σ':=σ3.AK j [.d (.int .i64 (G0 600))]) (I2 hb) ?_
 refine Run.Bh ((fun (a1:AV) (a7:AV)=>fun (y:Nat×Nat)=>put 1 a1 (put 7 a7 (put 8 (.d (.int .i64 y.1)) U))) _ _) (fun _=>B4 1 [.d (.sl (ds.map DE.enc)),.d (.sl (fs.map FE.enc))] E) (fun y=>σ3.AK j [.d (.int .i64 (G0 y.2))])
  (fun y=>y.1≤fs.length∧y.2≤600∧(fs.take y.1).foldlM PG 600=some y.2) (fun y=>fs.length - y.1) ?_ (0,600) ⟨by simp,by simp,rfl⟩
 rintro ⟨i,q⟩ ⟨hi,hq,hok⟩ ih
 simp only at hi hq hok
 have hσ:∀z:Int,σ.le (σ3.AK j [.d (.int .i64 z)]):=fun z=>Xk hle hsj
 by_cases hlt:i < fs.length
 · obtain ⟨x,hx⟩:=Cd hlt
   have he:=C5 (enc:=FE.enc) hx
   have hw1:=BN (show i+1≤9000000000000000000 by omega)
   have hnm:=DF x.name 1 (σ3.AK j [.d (.int .i64 (G0 q))])
   rw [show GB 1 x.name=DU x.name from rfl] at hnm
   have hps:=I1 x.params true (σ3.AK j [.d (.int .i64 (G0 q))])
   rw [RG] at hps
   have hc:=WU j 40 q (A7 _) hq x.body (σ3.AK j [.d (.int .i64 (G0 q))]) (by simp only [AO,if_true])
   rw [show ((40:Nat):Int)=40 from rfl] at hc
   have hno:PG q x=none→fs.foldlM PG 600=none:=fun h=>Jt hok hx h
   have hyes:∀r,PG q x=some r→(fs.take (i+1)).foldlM PG 600=some r:=fun r h=>by rw [Ju hok hx,h]
   have hvf:PG q x=if DU x.name&&(decide (x.params.length≤6)&&x.params.all DU) then vEx 40 q x.body else none:=by
    unfold PG Ml;rw [Bool.and_assoc]
   generalize (decide (x.params.length≤6)&&x.params.all DU)=bp at hps hvf
   cases h1:DU x.name with
   |false=>
    rw [h1] at hnm hvf
    obtain ⟨nm,ps,o,n,u,ns,ks,al⟩:=x
    simp only [FE.enc,Ex.A2] at he hnm
    (repeat' (first|refine Run.ct rfl ?_|((first|refine Run.reg mixed ?_|refine Run.AL ?_|(refine Run.Ad DB (σ2:=σ) (hσ _) ?_)|refine AH.det (hnm) ?_)<;>try simp -implicitDefEqProofs only [BU hlt,he,AE,go_sem])|fail))
    rw [hres,hno hvf];rfl
   |true=>
   rw [h1] at hnm
   cases bp with
   |false=>
    rw [h1] at hvf
    obtain ⟨nm,ps,o,n,u,ns,ks,al⟩:=x
    simp only [FE.enc,Ex.A2] at he hnm hps
    (repeat' (first|refine Run.ct rfl ?_|((first|refine Run.reg mixed ?_|refine Run.AL ?_|(refine Run.Ad DB (σ2:=σ) (hσ _) ?_)|refine AH.det (hnm) ?_|refine AH.det (hps) ?_)<;>try simp -implicitDefEqProofs only [BU hlt,he,AE,go_sem])|fail))
    rw [hres,hno hvf];rfl
   |true=>
   rw [h1] at hvf
   cases hv:vEx 40 q x.body with
   |some r=>
    have hr:=SP _ _ _ _ hv
    rw [hv] at hvf
    have hc:=VXQ.yes hc hv
    have hs:=hyes r hvf
    obtain ⟨nm,ps,o,n,u,ns,ks,al⟩:=x
    simp only [FE.enc,Ex.A2,exA,AF,AI] at he hnm hps hc
    (repeat' (first|refine Run.ct rfl ?_|((first|refine Run.reg mixed ?_|refine Run.AL ?_|(refine AH.mk rfl hc ?_;rintro _ _ ⟨rfl,rfl⟩)|refine AH.det (hnm) ?_|refine AH.det (hps) ?_)<;>try simp -implicitDefEqProofs only [BU hlt,he,hw1,AE,go_sem])|fail))
    exact ih (i+1,r) ⟨by simp only;omega,by simp only;omega,hs⟩ (by simp only;omega)
   |none=>
    rw [hv] at hvf
    have hc:=VXQ.no hc hv
    obtain ⟨nm,ps,o,n,u,ns,ks,al⟩:=x
    simp only [FE.enc,Ex.A2,exA,AF,AI] at he hnm hps hc
    (repeat' (first|refine Run.ct rfl ?_|((first|refine Run.reg mixed ?_|refine Run.AL ?_|(refine AH.mk rfl hc ?_;rintro _ _ ⟨rfl,z,rfl⟩)|(refine Run.Ad DB (σ2:=σ) (hσ _) ?_)|refine AH.det (hnm) ?_|refine AH.det (hps) ?_)<;>try simp -implicitDefEqProofs only [BU hlt,he,hw1,AE,go_sem])|fail))
    rw [hres,hno hvf];rfl
 · rw [A8 (by omega)] at hok
   (repeat' (first|refine Run.ct rfl ?_|((first|refine Run.reg mixed ?_|refine Run.AL ?_|(refine Run.Ad DB (σ2:=σ) (hσ _) ?_))<;>try simp -implicitDefEqProofs only [FR hlt,AE,go_sem])|fail))
   rw [hres,hok];rfl
set_option maxHeartbeats 4000000 in
theorem eD (p:Pg) (σ:AN) (h:∀d∈p.data,Wh d):AQ Tryz.prog 20 [pgA p] σ (fun v σ'=>v= .d (.bool (Cw p))∧σ'=σ):=by
 obtain ⟨ds,fs⟩:=p
 refine gQ (by simp) ?_
 rw [BB,pgA]
 simp only [Pg.enc,AF,AI] at h ⊢
 have h12:decide ((12:Int) < (ds.length:Int))=!decide (ds.length≤12):=gtN _ 12
 have h24:decide ((24:Int) < (fs.length:Int))=!decide (fs.length≤24):=gtN _ 24
 by_cases hd:ds.length≤12
 case neg=>
  (repeat' (first|refine Run.ct rfl ?_|((first|refine Run.reg mixed ?_|refine Run.AL ?_|refine Run.Ad DB (AN.le_refl _) ?_)<;>try simp -implicitDefEqProofs only [AE,h12,decide_eq_false hd,go_sem])|fail))
  simp [Cw,hd]
 by_cases hf:fs.length≤24
 case neg=>
  (repeat' (first|refine Run.ct rfl ?_|((first|refine Run.reg mixed ?_|refine Run.AL ?_|refine Run.Ad DB (AN.le_refl _) ?_)<;>try simp -implicitDefEqProofs only [AE,h12,decide_eq_true hd,h24,decide_eq_false hf,go_sem])|fail))
  simp [Cw,hf]
 have hres:Cw ⟨ds,fs⟩=(ds.all G6&&(fs.foldlM PG 600).isSome):=by simp [Cw,hd,hf]
 have hbad:∀d∈ds,G6 d=false→Cw ⟨ds,fs⟩=false:=fun d hm hb=>by
  rw [hres,List.all_eq_false.2 ⟨d,hm,by simp [hb]⟩];rfl
 (repeat' (first|refine Run.ct rfl ?_|((first|refine Run.reg mixed ?_|refine Run.AL ?_)<;>try simp -implicitDefEqProofs only [AE,h12,decide_eq_true hd,h24,decide_eq_true hf,go_sem])|fail))
 refine Run.Bb ?_
 refine Run.Bh ((fun (a1:AV)=>fun (i:Nat)=>put 1 a1 (put 3 (.d (.int .i64 i)) U)) _) (fun _=>B4 1 [.d (.sl (ds.map DE.enc)),.d (.sl (fs.map FE.enc))] E) (fun _=>σ) (fun i=>i≤ds.length∧(ds.take i).all G6=true) (fun i=>ds.length - i) ?_ 0 ⟨by simp,by simp⟩
 rintro i ⟨hi,hok⟩ ih
 by_cases hlt:i < ds.length
 · obtain ⟨x,hx⟩:=Cd hlt
   have hxm:=Af hx
   have he:=C5 (enc:=DE.enc) hx
   have hw1:=BN (show i+1≤9000000000000000000 by omega)
   have hxs:=h x hxm
   have hbx:=hbad x hxm
   have hs:=fun hp=>KV (p:=G6) hok hx hp
   have hnm:=DF x.name 2 σ
   rw [show GB 2 x.name=upperB x.name from rfl] at hnm
   have hbs:=I1 x.vars true σ
   rw [RG] at hbs
   have h8:decide ((8:Int) < (x.cons.length:Int))=!decide (x.cons.length≤8):=gtN _ 8
   have hl1:decide ((x.cons.length:Int) < 1)=!decide (1≤x.cons.length):=by
    rw [Dd];simp only [decide_eq_true_eq,CJ,decide_eq_false_iff_not];omega
   have hdx:G6 x=(((upperB x.name&&(decide (x.vars.length≤6)&&x.vars.all DU))&&(decide (1≤x.cons.length)&&decide (x.cons.length≤8)))&&x.cons.all RT):=by
    simp [G6,Bool.and_assoc]
   obtain ⟨nm,vs,cs⟩:=x
   simp only [DE.enc] at he hnm hbs h8 hl1 hdx hxs
   cases hA:upperB nm with
   |false=>
    rw [hA] at hnm hdx
    (repeat' (first|refine Run.ct rfl ?_|((first|refine Run.reg mixed ?_|refine Run.AL ?_|refine Run.Ad DB (AN.le_refl _) ?_|refine AH.det (hnm) ?_)<;>try simp -implicitDefEqProofs only [BU hlt,he,AE,go_sem])|fail))
    rw [hbx hdx]
   |true=>
   rw [hA] at hnm
   cases hB:(decide (vs.length≤6)&&vs.all DU) with
   |false=>
    rw [hB] at hbs
    rw [hA,hB] at hdx
    (repeat' (first|refine Run.ct rfl ?_|((first|refine Run.reg mixed ?_|refine Run.AL ?_|refine Run.Ad DB (AN.le_refl _) ?_|refine AH.det (hnm) ?_|refine AH.det (hbs) ?_)<;>try simp -implicitDefEqProofs only [BU hlt,he,AE,go_sem])|fail))
    rw [hbx hdx]
   |true=>
   rw [hB] at hbs
   by_cases hC:1≤cs.length
   case neg=>
    rw [decide_eq_false hC] at hl1 hdx
    (repeat' (first|refine Run.ct rfl ?_|((first|refine Run.reg mixed ?_|refine Run.AL ?_|refine Run.Ad DB (AN.le_refl _) ?_|refine AH.det (hnm) ?_|refine AH.det (hbs) ?_)<;>try simp -implicitDefEqProofs only [BU hlt,he,AE,hl1,go_sem])|fail))
    rw [hbx (by rw [hdx];simp)]
   rw [decide_eq_true hC] at hl1
   by_cases hD:cs.length≤8
   case neg=>
    rw [decide_eq_false hD] at h8 hdx
    (repeat' (first|refine Run.ct rfl ?_|((first|refine Run.reg mixed ?_|refine Run.AL ?_|refine Run.Ad DB (AN.le_refl _) ?_|refine AH.det (hnm) ?_|refine AH.det (hbs) ?_)<;>try simp -implicitDefEqProofs only [BU hlt,he,AE,hl1,h8,go_sem])|fail))
    rw [hbx (by rw [hdx];simp)]
   rw [decide_eq_true hD] at h8
   rw [hA,hB,decide_eq_true hC,decide_eq_true hD] at hdx
   simp only [Bool.and_self,BE] at hdx
   rw [hdx] at hbx hs
   (repeat' (first|refine Run.ct rfl ?_|((first|refine Run.reg mixed ?_|refine Run.AL ?_|refine AH.det (hnm) ?_|refine AH.det (hbs) ?_)<;>try simp -implicitDefEqProofs only [BU hlt,he,AE,hl1,h8,go_sem])|fail))
   refine Run.Bb ?_
   refine Run.Bh ((fun (a1:AV) (a3:AV) (a4:AV)=>fun (k:Nat)=>put 1 a1 (put 3 a3 (put 4 a4 (put 5 (.d (.int .i64 k)) U)))) _ _ _) (fun _=>B4 1 [.d (.sl (ds.map DE.enc)),.d (.sl (fs.map FE.enc))] (B4 4 [.d (.str nm),.d (.sl (vs.map Dr)),.d (.sl (cs.map CE.enc))] E)) (fun _=>σ) (fun k=>k≤cs.length∧(cs.take k).all RT=true) (fun k=>cs.length - k) ?_ 0 ⟨by simp,by simp⟩
   rintro k ⟨hk,hokc⟩ ih2
   by_cases hkl:k < cs.length
   · obtain ⟨c,hc⟩:=Cd hkl
     have hcm:=Af hc
     have hec:=C5 (enc:=CE.enc) hc
     have hwk:=BN (show k+1≤9000000000000000000 by omega)
     have hcs:=hxs c hcm
     have hbc:RT c=false→Cw ⟨ds,fs⟩=false:=fun hb=>hbx (List.all_eq_false.2 ⟨c,hcm,by simp [hb]⟩)
     have hsc:=fun hp=>KV (p:=RT) hokc hc hp
     have hcn:=DF c.name 2 σ
     rw [show GB 2 c.name=upperB c.name from rfl] at hcn
     have h6:decide ((6:Int) < (c.args.length:Int))=!decide (c.args.length≤6):=gtN _ 6
     have hcx:RT c=(upperB c.name&&decide (c.args.length≤6)&&c.args.all (Bi 40)):=rfl
     obtain ⟨cn,ar⟩:=c
     simp only [CE.enc] at hec hcn h6 hcx hcs
     cases hE:upperB cn with
     |false=>
      rw [hE] at hcn hcx
      (repeat' (first|refine Run.ct rfl ?_|((first|refine Run.reg mixed ?_|refine Run.AL ?_|refine Run.Ad DB (AN.le_refl _) ?_|refine AH.det (hcn) ?_)<;>try simp -implicitDefEqProofs only [BU hkl,hec,AE,go_sem])|fail))
      rw [hbc hcx]
     |true=>
     rw [hE] at hcn
     by_cases hF:ar.length≤6
     case neg=>
      rw [decide_eq_false hF] at h6 hcx
      (repeat' (first|refine Run.ct rfl ?_|((first|refine Run.reg mixed ?_|refine Run.AL ?_|refine Run.Ad DB (AN.le_refl _) ?_|refine AH.det (hcn) ?_)<;>try simp -implicitDefEqProofs only [BU hkl,hec,AE,h6,go_sem])|fail))
      rw [hbc (by rw [hcx];simp)]
     rw [decide_eq_true hF] at h6
     rw [hE,decide_eq_true hF] at hcx
     simp only [Bool.and_self,BE] at hcx
     rw [hcx] at hbc hsc
     (repeat' (first|refine Run.ct rfl ?_|((first|refine Run.reg mixed ?_|refine Run.AL ?_|refine AH.det (hcn) ?_)<;>try simp -implicitDefEqProofs only [BU hkl,hec,AE,h6,go_sem])|fail))
     refine Run.Bb ?_
     refine Run.Bh ((fun (a1:AV) (a3:AV) (a4:AV) (a5:AV)=>fun (a:Nat)=>put 1 a1 (put 3 a3 (put 4 a4 (put 5 a5 (put 6 (.d (.int .i64 a)) U))))) _ _ _ _) (fun _=>B4 1 [.d (.sl (ds.map DE.enc)),.d (.sl (fs.map FE.enc))] (B4 4 [.d (.str nm),.d (.sl (vs.map Dr)),.d (.sl (cs.map CE.enc))] E)) (fun _=>σ) (fun a=>a≤ar.length∧(ar.take a).all (Bi 40)=true) (fun a=>ar.length - a) ?_ 0 ⟨by simp,by simp⟩
     rintro a ⟨ha,hoka⟩ ih3
     by_cases hal:a < ar.length
     · obtain ⟨t,ht⟩:=Cd hal
       have htm:=Af ht
       have het:=C5 (enc:=TE.enc) ht
       have hwa:=BN (show a+1≤9000000000000000000 by omega)
       have hv:=WV 40 t σ (A7 _) (hcs t htm)
       rw [show ((40:Nat):Int)=40 from rfl] at hv
       cases hp:Bi 40 t with
       |true=>
        rw [hp] at hv
        obtain ⟨tk,tn,tl⟩:=t
        simp only [TE.A2,teA,AF,AI] at het hv
        (repeat' (first|refine Run.ct rfl ?_|((first|refine Run.reg mixed ?_|refine Run.AL ?_|refine AH.det (hv) ?_)<;>try simp -implicitDefEqProofs only [BU hal,hec,het,hwa,AE,go_sem])|fail))
        exact ih3 (a+1) ⟨by omega,KV hoka ht hp⟩ (by omega)
       |false=>
        rw [hp] at hv
        obtain ⟨tk,tn,tl⟩:=t
        simp only [TE.A2,teA,AF,AI] at het hv
        (repeat' (first|refine Run.ct rfl ?_|((first|refine Run.reg mixed ?_|refine Run.AL ?_|refine Run.Ad DB (AN.le_refl _) ?_|refine AH.det (hv) ?_)<;>try simp -implicitDefEqProofs only [BU hal,hec,het,hwa,AE,go_sem])|fail))
        rw [hbc (XA ht hp)]
     · rw [A8 (by omega)] at hoka
       (repeat' (first|refine Run.ct rfl ?_|((first|refine Run.reg mixed ?_|refine Run.AL ?_)<;>try simp -implicitDefEqProofs only [FR hal,hec,hwk,AE,go_sem])|fail))
       exact ih2 (k+1) ⟨by omega,hsc hoka⟩ (by omega)
   · rw [A8 (by omega)] at hokc
     (repeat' (first|refine Run.ct rfl ?_|((first|refine Run.reg mixed ?_|refine Run.AL ?_)<;>try simp -implicitDefEqProofs only [FR hkl,hw1,AE,go_sem])|fail))
     exact ih (i+1) ⟨by omega,hs hokc⟩ (by omega)
 · rw [A8 (by omega)] at hok
   rw [hok,BE] at hres
   clear ih
   (repeat' (first|refine Run.ct rfl ?_|((first|refine Run.reg mixed ?_|refine Run.AL ?_)<;>try simp -implicitDefEqProofs only [FR hlt,AE,go_sem])|fail))
   intro j hj
   obtain ⟨hle3,hb⟩:=oJ (z:=[.d (.int .i64 0)]) (x:=([AV.d (.int .i64 0)].length,3)) hj
   simp only [AD,AG,B5] at hle3 hb
   generalize (σ.AK j [.d (.int .i64 0)]).GO j (1,3)=σ3 at hle3 hb ⊢
   simp -implicitDefEqProofs only [hb,go_sem]
   (repeat' (first|refine Run.ct rfl ?_|((first|refine Run.reg mixed ?_|refine Run.AL ?_)<;>try simp -implicitDefEqProofs only [hb,AE,go_sem])|fail))
   exact YC ds fs σ (σ3.AK j [.d (.int .i64 600)]) j (Xk hle3 hj.1) (by simp only [AO,if_true]) hj.1 hres hf
end Go.Ab
namespace Go.Ab
open Go.Proofs
theorem rO {s:Str} {k:Int} {t:Str} (h:D0 s= .ok (k,t)) (hl:s.length≤20000) (hk:k=3):dR t:=by
 match s,h with
 |b::r,h=>
  simp only [D0] at h
  split at h
  · split at h
    · cases h
    · split at h
      · cases h;omega
      · split at h<;>(cases h;omega)
  · split at h
    · rename_i hd
      split at h
      · cases h
      · split at h
        · rename_i hv
          simp only [Gb,B2] at h
          obtain ⟨_,rfl⟩:=h
          refine .inr ⟨?_,oI,hv,BC (Eb _ _) hl⟩
          rw [FT,if_pos (show CH Ec b=true from hd)];simp
        · cases h
    · split at h
      · cases h
      · cases h;omega
theorem Wi:∀(n:Nat) (rest:Str) (i:Nat) (acc:List Tok),rest.length≤20000→NOk acc→(DW n rest i acc).2.2=0→NOk (DW n rest i acc).1
 |0,rest,i,acc,_,_,_=>fun t ht=>by cases ht
 |n+1,[],i,acc,_,ha,_=>fun t ht hk=>by
  rcases BS.1 ht with ht|ht
  · exact ha t ht hk
  · rw [Di] at ht;subst ht;cases hk
 |n+1,b::r,i,acc,hl,ha,h=>by
  rw [DW] at h ⊢
  split at h
  · rename_i hb
    rw [if_pos hb]
    exact Wi n r (i+1) acc (by simp at hl;omega) ha h
  · rename_i hb
    rw [if_neg hb]
    split at h
    · rename_i hc
      rw [if_pos hc]
      exact Wi n _ _ acc (by rw [Ai];omega) ha h
    · rename_i hc
      rw [if_neg hc]
      cases hs:D0 (b::r) with
      |error e=>
       rw [hs] at h
       simp only at h
       rcases Ox hs with rfl|rfl<;>cases h
      |ok x=>
       obtain ⟨k,t⟩:=x
       rw [hs] at h
       simp only at h ⊢
       refine Wi n _ _ _ (by rw [Ai];omega) (fun u hu hk=>?_) h
       rcases BS.1 hu with hu|hu
       · exact ha u hu hk
       · rw [Di] at hu;subst hu;exact rO hs hl hk
theorem nP {s:Str} (h:(BG s).2.2=0):NOk (BG s).1:=by
 unfold BG at h ⊢
 split at h
 · cases h
 · rename_i hl
   rw [if_neg hl]
   exact Wi _ s 0 [] (by omega) (fun t ht=>by cases ht) h
theorem xF (i:Nat) (L:List Tok):PC 129 [.gp i 0] i L BF dT ceA:=by
 intro σ s0 g0 h0 l0 b0
 refine Si (by simp) ?_
 rw [BB]
 simp only [dT,tyR,run_bind,run_pure,ceA,CE.enc,AF,AI]
 (have c0:=(SO i L BF) σ s0 g0 h0 (by omega) b0;have h1:=h0.run (FM);have l1:=PM.le (FM) h0.wf;generalize (FM).run s0=y at c0 h1 l1 ⊢;obtain ⟨x0,s1⟩:=y;simp only at c0 h1 l1 ⊢;have b1:(σ.AK i (psA L s1)).blk i=some (psA L s1):=(by rw [AO,if_pos rfl]))
 (have c1:=((JG i L BF X7 (r3 i L BF)).pc.mono (Nat.le_succ BF)) (σ.AK i (psA L s1)) s1 g0 h1 (by omega) b1;rw [A1] at c1;have h2:=h1.run (IH (Fg BF));have l2:=PM.le (IH (Fg BF)) h1.wf;generalize (IH (Fg BF)).run s1=y at c1 h2 l2 ⊢;obtain ⟨x1,s2⟩:=y;simp only at c1 h2 l2 ⊢;have b2:(σ.AK i (psA L s2)).blk i=some (psA L s2):=(by rw [AO,if_pos rfl]))
 (repeat' (first|refine Run.ct rfl ?_|((first|refine Run.reg mixed ?_|refine Run.AL ?_|refine Run.Ad Lq (AN.le_refl _) ?_|(refine AH.upd c0 ?_)|(refine AH.upd c1 ?_)|(refine AR rfl (fun h=>?_) (fun h=>?_)<;>try (cases h;done)))<;>try simp -implicitDefEqProofs only [go_sem])|(refine ⟨fun h=>?_,fun h=>?_⟩<;>first|(cases h;done)|try simp only [h])|fail))
theorem sU (i:Nat) (L:List Tok):PC 66 [.gp i 0] i L BF TZ deA:=by
 intro σ s0 g0 h0 l0 b0
 refine R7 (by simp) ?_
 rw [BB]
 simp only [TZ,run_bind,run_pure,deA,DE.enc,AF,AI]
 (have c0:=(SO i L BF) σ s0 g0 h0 (by omega) b0;have h1:=h0.run (FM);have l1:=PM.le (FM) h0.wf;generalize (FM).run s0=y at c0 h1 l1 ⊢;obtain ⟨x0,s1⟩:=y;simp only at c0 h1 l1 ⊢;have b1:(σ.AK i (psA L s1)).blk i=some (psA L s1):=(by rw [AO,if_pos rfl]))
 (have c1:=((Od i L BF aJ (Po i L BF)).pc.mono (Nat.le_succ BF)) (σ.AK i (psA L s1)) s1 g0 h1 (by omega) b1;rw [A1] at c1;have h2:=h1.run (IH F6);have l2:=PM.le (IH F6) h1.wf;generalize (IH F6).run s1=y at c1 h2 l2 ⊢;obtain ⟨x1,s2⟩:=y;simp only at c1 h2 l2 ⊢;have b2:(σ.AK i (psA L s2)).blk i=some (psA L s2):=(by rw [AO,if_pos rfl]))
 (have c2:=(DA i L BF [61] (by decide)) (σ.AK i (psA L s2)) s2 g0 h2 (by omega) b2;rw [A1] at c2;have h3:=h2.run (PM.exp [61] (by decide));have l3:=PM.le (PM.exp [61] (by decide)) h2.wf;generalize (PM.exp [61] (by decide)).run s2=y at c2 h3 l3 ⊢;obtain ⟨x2,s3⟩:=y;simp only at c2 h3 l3 ⊢;have b3:(σ.AK i (psA L s3)).blk i=some (psA L s3):=(by rw [AO,if_pos rfl]))
 (have c3:=(Rm i L BF xV (xF i L) [124] (by decide)).pc (σ.AK i (psA L s3)) s3 g0 h3 (by omega) b3;rw [A1] at c3;have h4:=h3.run (items dT [124] (by decide));have l4:=PM.le (items dT [124] (by decide)) h3.wf;generalize (items dT [124] (by decide)).run s3=y at c3 h4 l4 ⊢;obtain ⟨x3,s4⟩:=y;simp only at c3 h4 l4 ⊢;have b4:(σ.AK i (psA L s4)).blk i=some (psA L s4):=(by rw [AO,if_pos rfl]))
 (have c4:=(DA i L BF [59] (by decide)) (σ.AK i (psA L s4)) s4 g0 h4 (by omega) b4;rw [A1] at c4;have h5:=h4.run (PM.exp [59] (by decide));have l5:=PM.le (PM.exp [59] (by decide)) h4.wf;generalize (PM.exp [59] (by decide)).run s4=y at c4 h5 l5 ⊢;obtain ⟨x4,s5⟩:=y;simp only at c4 h5 l5 ⊢;have b5:(σ.AK i (psA L s5)).blk i=some (psA L s5):=(by rw [AO,if_pos rfl]))
 (repeat' (first|refine Run.ct rfl ?_|((first|refine Run.reg mixed ?_|refine Run.AL ?_|refine Run.Ad Kn (AN.le_refl _) ?_|(refine AH.upd c0 ?_)|(refine AH.upd c1 ?_)|(refine AH.upd c2 ?_)|(refine AH.upd c3 ?_)|(refine AH.upd c4 ?_)|(refine AR rfl (fun h=>?_) (fun h=>?_)<;>try (cases h;done)))<;>try simp -implicitDefEqProofs only [go_sem])|(refine ⟨fun h=>?_,fun h=>?_⟩<;>first|(cases h;done)|try simp only [h])|fail))
theorem xR (i:Nat) {L:List Tok} (hN:NOk L):PC 67 [.gp i 0] i L BF ZC feA:=by
 intro σ s0 g0 h0 l0 b0
 refine Sj (by simp) ?_
 rw [BB]
 simp only [ZC,exR,run_bind,run_pure]
 (have c0:=(Po i L BF) σ s0 g0 h0 (by omega) b0;have h1:=h0.run (F6);have l1:=PM.le (F6) h0.wf;generalize (F6).run s0=y at c0 h1 l1 ⊢;obtain ⟨x0,s1⟩:=y;simp only at c0 h1 l1 ⊢;have b1:(σ.AK i (psA L s1)).blk i=some (psA L s1):=(by rw [AO,if_pos rfl]))
 (have c1:=(DA i L BF [40] (by decide)) (σ.AK i (psA L s1)) s1 g0 h1 (by omega) b1;rw [A1] at c1;have h2:=h1.run (PM.exp [40] (by decide));have l2:=PM.le (PM.exp [40] (by decide)) h1.wf;generalize (PM.exp [40] (by decide)).run s1=y at c1 h2 l2 ⊢;obtain ⟨x1,s2⟩:=y;simp only at c1 h2 l2 ⊢;have b2:(σ.AK i (psA L s2)).blk i=some (psA L s2):=(by rw [AO,if_pos rfl]))
 (have c2:=(OU i L BF aJ (Po i L BF)).pc (σ.AK i (psA L s2)) s2 g0 h2 (by omega) b2;rw [A1] at c2;have h3:=h2.run (closed F6);have l3:=PM.le (closed F6) h2.wf;generalize (closed F6).run s2=y at c2 h3 l3 ⊢;obtain ⟨x2,s3⟩:=y;simp only at c2 h3 l3 ⊢;have b3:(σ.AK i (psA L s3)).blk i=some (psA L s3):=(by rw [AO,if_pos rfl]))
 (have c3:=(DA i L BF [61] (by decide)) (σ.AK i (psA L s3)) s3 g0 h3 (by omega) b3;rw [A1] at c3;have h4:=h3.run (PM.exp [61] (by decide));have l4:=PM.le (PM.exp [61] (by decide)) h3.wf;generalize (PM.exp [61] (by decide)).run s3=y at c3 h4 l4 ⊢;obtain ⟨x3,s4⟩:=y;simp only at c3 h4 l4 ⊢;have b4:(σ.AK i (psA L s4)).blk i=some (psA L s4):=(by rw [AO,if_pos rfl]))
 (have c4:=(jV i hN BF) (σ.AK i (psA L s4)) s4 g0 h4 (by omega) b4;rw [A1] at c4;have h5:=h4.run (Bw BF);have l5:=PM.le (Bw BF) h4.wf;generalize (Bw BF).run s4=y at c4 h5 l5 ⊢;obtain ⟨x4,s5⟩:=y;simp only at c4 h5 l5 ⊢;have b5:(σ.AK i (psA L s5)).blk i=some (psA L s5):=(by rw [AO,if_pos rfl]);obtain ⟨o4,n4,u4,ns4,ks4,al4⟩:=x4;simp only [exA,Ex.A2,AF,AI] at c4 ⊢)
 (have c5:=(DA i L BF [59] (by decide)) (σ.AK i (psA L s5)) s5 g0 h5 (by omega) b5;rw [A1] at c5;have h6:=h5.run (PM.exp [59] (by decide));have l6:=PM.le (PM.exp [59] (by decide)) h5.wf;generalize (PM.exp [59] (by decide)).run s5=y at c5 h6 l6 ⊢;obtain ⟨x5,s6⟩:=y;simp only at c5 h6 l6 ⊢;have b6:(σ.AK i (psA L s6)).blk i=some (psA L s6):=(by rw [AO,if_pos rfl]))
 simp only [feA,FE.enc,Ex.A2,AF,AI]
 (repeat' (first|refine Run.ct rfl ?_|((first|refine Run.reg mixed ?_|refine Run.AL ?_|refine Run.Ad Lr (AN.le_refl _) ?_|(refine AH.upd c0 ?_)|(refine AH.upd c1 ?_)|(refine AH.upd c2 ?_)|(refine AH.upd c3 ?_)|(refine AH.upd c4 ?_)|(refine AH.upd c5 ?_)|(refine AR rfl (fun h=>?_) (fun h=>?_)<;>try (cases h;done)))<;>try simp -implicitDefEqProofs only [go_sem])|(refine ⟨fun h=>?_,fun h=>?_⟩<;>first|(cases h;done)|try simp only [h])|fail))
theorem Wo.of {σ τ:AN} {i e z:Nat} {rows:List (List DV)} {v:AV} (hg:Wo σ) (h:EW (σ.Dm i) e z rows v τ):Wo τ:=by
 obtain ⟨te,pe,he⟩:=hg
 exact ⟨te,pe,by rw [← h.le.gt];exact he⟩
set_option maxHeartbeats 2000000 in
theorem iJ (i:Nat) {L:List Tok} (hN:NOk L):PC 28 [.gp i 0] i L BF Mw pgA:=by
 intro σ s0 g0 h0 l0 b0
 refine O3 (by simp) ?_
 rw [BB]
 (repeat' (first|refine Run.ct rfl ?_|((first|refine Run.reg mixed ?_|refine Run.AL ?_|(refine AR rfl (fun h=>?_) (fun h=>?_)<;>try (cases h;done)))<;>try simp -implicitDefEqProofs only [go_sem])|(refine ⟨fun h=>?_,fun h=>?_⟩<;>first|(cases h;done)|try simp only [h])|fail))
 refine Run.Bb ?_
 have hf0:=FZ
 have hl0:=h0.suf.length_le
 have hl1:=h0.len
 have hdel:(σ.Dm i).le σ:=⟨fun j c hj=>by
  have:j≠i:=fun e=>by rw [e] at hj;simp [AN.Dm] at hj
  simpa [AN.Dm,this] using hj,fun _ h=>h,rfl,fun _ _ h=>h⟩
 refine Run.Bh (α:=PSt×List DE×List FE×Nat×AV×AV×AN) (fun _=>put 0 (.gp i 0) (put 2 (.lp 2 0) (put 3 (.lp 3 0) U))) (fun y=>B4 2 [.AX,.AX] (B4 3 [y.2.2.2.2.1,y.2.2.2.2.2.1] Ab.E)) (fun y=>y.2.2.2.2.2.2)
  (fun y=>POk L y.1∧y.1.r.length≤y.2.2.2.1∧y.2.1.length+y.2.2.1.length+y.1.r.length≤17000∧EW (σ.Dm i) 61 3 (y.2.1.map DE.enc) y.2.2.2.2.1 y.2.2.2.2.2.2∧EW (σ.Dm i) 66 8 (y.2.2.1.map FE.enc) y.2.2.2.2.2.1 y.2.2.2.2.2.2∧Wm y.2.2.2.2.1 y.2.2.2.2.2.1∧y.2.2.2.2.2.2.blk i=some (psA L y.1)∧(Lv y.2.2.2.1 y.2.1 y.2.2.1).run y.1=Mw.run s0) (fun y=>y.1.r.length) ?_ (s0,[],[],BF,.AX,.AX,σ)
  ⟨h0,by simp only;omega,by simp;omega,EW.mono (EW.nil σ _ _) hdel,EW.mono (EW.nil σ _ _) hdel,fH _,b0,rfl⟩
 rintro ⟨s2,ds,fs,q,vd,vf,τ⟩ ⟨p1,p2,p3,p4,p5,p6,p7,p8⟩ ih
 simp only at p1 p2 p3 p4 p5 p6 p7 p8
 obtain ⟨q,rfl⟩:∃m,q=m+1:=⟨q - 1,by have:=Ar.2 p1.wf.ne;omega⟩
 rw [rF] at p8
 have hpk:=Pq p1 τ p7
 have hgt:Wo τ:=g0.of p4
 have hn1:vd.BQ 3=false:=p4.BQ 3
 cases hk:s2.hd.kind==6 with
 |true=>
  rw [hk,if_pos rfl] at p8
  rw [← p8]
  have hne:(s2.hd.kind != 6)=false:=by unfold bne;rw [hk];rfl
  simp only [pgA,Pg.enc,AF,AI]
  have hle:=(LS.mk p4 p7:LS σ i L s2 _ _ _ _ _).le
  (repeat' (first|refine Run.ct rfl ?_|((first|refine Run.reg mixed ?_|refine Run.AL ?_|(refine Run.Ad IV hle ?_)|refine AH.det (hpk) ?_|(refine AR rfl (fun h=>?_) (fun h=>?_)<;>try (cases h;done)))<;>try simp -implicitDefEqProofs only [hne,p4.BQ,p5.BQ,p4.At,p5.At,p4.cell,p5.cell,p4.plain,p5.plain,if_true,go_sem])|(refine ⟨fun h=>?_,fun h=>?_⟩<;>first|(cases h;done)|try simp only [h])|fail))
 |false=>
  have hne:(s2.hd.kind != 6)=true:=by unfold bne;rw [hk];rfl
  rw [hk,if_neg (by decide)] at p8
  cases t1:s2.hd.text==[100,97,116,97] with
  |true=>
   rw [t1,if_pos rfl] at p8
   have c1:=Cz p1 _ τ p7 t1
   have h3:=p1.adv (t:=[100,97,116,97]) (by decide) t1
   have l3:=BT p1.wf
   generalize s2.adv=s3 at c1 h3 l3 p8
   have c2:=sU i L (τ.AK i (psA L s3)) s3 hgt h3 (by omega) (by rw [AO,if_pos rfl])
   rw [A1] at c2
   have h4:=h3.run TZ
   have l4:=PM.le TZ h3.wf
   generalize TZ.run s3=y at c2 h4 l4 p8
   obtain ⟨d,s4⟩:=y
   simp only at c2 h4 l4 p8
   obtain ⟨dn,dv,dc⟩:=d
   simp only [deA,DE.enc,AF,AI] at c2
   have q4:=p4.iQ (Me σ i) (psA L s4)
   have q5:=p5.iQ (Me σ i) (psA L s4)
   (repeat' (first|refine Run.ct rfl ?_|((first|refine Run.reg mixed ?_|refine Run.AL ?_|(refine AH.upd c1 ?_)|(refine AH.upd c2 ?_)|refine AH.det (hpk) ?_|(refine AR rfl (fun h=>?_) (fun h=>?_)<;>try (cases h;done)))<;>try simp -implicitDefEqProofs only [hne,p4.BQ,p5.BQ,p4.cell,p5.cell,p4.cells,p5.cells,if_true,go_sem])|(refine ⟨fun h=>?_,fun h=>?_⟩<;>first|(cases h;done)|try simp only [h])|fail))
   (apply LP.AAG (cx:=Be) q4;rfl;simp;(simp only [AE,AD,AG];omega);decide;intro v2 τ2 ho hbk hkp)
   obtain ⟨r5,r6⟩:=hkp _ _ _ _ q5 p6
   simp -implicitDefEqProofs only [ho.BQ,ho.At,ho.cells,ho.cell,p4.cell,p5.cell,if_true,go_sem]
   (repeat' (first|refine Run.ct rfl ?_|((first|refine Run.reg mixed ?_|refine Run.AL ?_|(refine AR rfl (fun h=>?_) (fun h=>?_)<;>try (cases h;done)))<;>try simp -implicitDefEqProofs only [ho.BQ,ho.At,ho.cells,ho.cell,go_sem])|(refine ⟨fun h=>?_,fun h=>?_⟩<;>first|(cases h;done)|try simp only [h])|fail))
   refine ih (s4,ds++[⟨dn,dv,dc⟩],fs,q,v2,vf,τ2) ⟨h4,by simp only;omega,by simp only [AA,AD,AG];omega,?_,r5,r6,by simp [hbk,AO],p8⟩ (by simp only;omega)
   simp only [Bj,AF,AI,DE.enc]
   exact ho
  |false=>
  have f1:=Cy p1 _ τ p7 t1
  rw [t1,if_neg (by decide)] at p8
  cases t2:s2.hd.text==[102,117,110] with
  |true=>
   rw [t2,if_pos rfl] at p8
   have c1:=Cz p1 _ τ p7 t2
   have h3:=p1.adv (t:=[102,117,110]) (by decide) t2
   have l3:=BT p1.wf
   generalize s2.adv=s3 at c1 h3 l3 p8
   have c2:=xR i hN (τ.AK i (psA L s3)) s3 hgt h3 (by omega) (by rw [AO,if_pos rfl])
   rw [A1] at c2
   have h4:=h3.run ZC
   have l4:=PM.le ZC h3.wf
   generalize ZC.run s3=y at c2 h4 l4 p8
   obtain ⟨d,s4⟩:=y
   simp only at c2 h4 l4 p8
   obtain ⟨fn,fp,fb⟩:=d
   obtain ⟨o0,n0,u0,ns0,ks0,al0⟩:=fb
   simp only [feA,FE.enc,Ex.A2,AF,AI] at c2
   have q4:=p4.iQ (Me σ i) (psA L s4)
   have q5:=p5.iQ (Me σ i) (psA L s4)
   (repeat' (first|refine Run.ct rfl ?_|((first|refine Run.reg mixed ?_|refine Run.AL ?_|(refine AH.upd c1 ?_)|(refine AH.upd c2 ?_)|refine AH.det (hpk) ?_|refine AH.det (f1) ?_|(refine AR rfl (fun h=>?_) (fun h=>?_)<;>try (cases h;done)))<;>try simp -implicitDefEqProofs only [hne,p4.BQ,p5.BQ,p4.cell,p5.cell,p4.cells,p5.cells,if_true,go_sem])|(refine ⟨fun h=>?_,fun h=>?_⟩<;>first|(cases h;done)|try simp only [h])|fail))
   (apply LP.AAG (cx:=Be) q5;rfl;simp;(simp only [AE,AD,AG];omega);decide;intro v2 τ2 ho hbk hkp)
   obtain ⟨r5,r6⟩:=hkp _ _ _ _ q4 p6.symm
   simp -implicitDefEqProofs only [ho.BQ,ho.At,ho.cells,ho.cell,p4.cell,p5.cell,if_true,go_sem]
   (repeat' (first|refine Run.ct rfl ?_|((first|refine Run.reg mixed ?_|refine Run.AL ?_|(refine AR rfl (fun h=>?_) (fun h=>?_)<;>try (cases h;done)))<;>try simp -implicitDefEqProofs only [ho.BQ,ho.At,ho.cells,ho.cell,go_sem])|(refine ⟨fun h=>?_,fun h=>?_⟩<;>first|(cases h;done)|try simp only [h])|fail))
   refine ih (s4,ds,fs++[⟨fn,fp,.mk o0 n0 u0 ns0 ks0 al0⟩],q,vd,v2,τ2) ⟨h4,by simp only;omega,by simp only [AA,AD,AG];omega,r5,?_,r6.symm,by simp [hbk,AO],p8⟩ (by simp only;omega)
   simp only [Bj,AF,AI,FE.enc,Ex.A2]
   exact ho
  |false=>
  have f2:=Cy p1 _ τ p7 t2
  rw [t2,if_neg (by decide)] at p8
  have c1:=U2 p1 τ p7
  have h3:=p1.fail
  have l3:=cT p1.wf
  have h2':=yY p1.wf hk
  have q4:=p4.iQ (Me σ i) (psA L s2.fail)
  have q5:=p5.iQ (Me σ i) (psA L s2.fail)
  (repeat' (first|refine Run.ct rfl ?_|((first|refine Run.reg mixed ?_|refine Run.AL ?_|(refine AH.upd c1 ?_)|refine AH.det (hpk) ?_|refine AH.det (f1) ?_|refine AH.det (f2) ?_|(refine AR rfl (fun h=>?_) (fun h=>?_)<;>try (cases h;done)))<;>try simp -implicitDefEqProofs only [hne,p4.BQ,p5.BQ,p4.cell,p5.cell,p4.cells,p5.cells,if_true,go_sem])|(refine ⟨fun h=>?_,fun h=>?_⟩<;>first|(cases h;done)|try simp only [h])|fail))
  exact ih (s2.fail,ds,fs,q,vd,vf,_) ⟨h3,by simp only;omega,by simp only;omega,q4,q5,p6,by simp [AO],p8⟩ (by simp only;omega)
end Go.Ab
