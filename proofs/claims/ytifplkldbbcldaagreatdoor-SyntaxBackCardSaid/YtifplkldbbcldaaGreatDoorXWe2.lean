/- Several owned slices side by side. Valid programs, as the reference looks at them. The parser: declarations, programs, Parse. Conditions: none. -/
import Derived.Test.YtifplkldbbcldaaGreatDoorXPi
set_option linter.unusedSimpArgs false
set_option linter.unusedVariables false
set_option maxRecDepth 4000
set_option maxHeartbeats 8000000
open Nat renaming mul_le_mul→O0,le_refl→A7,zero_add→B9,le_trans→BD
open Option.some renaming injEq→AQ
open List renaming length_map→AB,map_cons→AF,map_nil→AI,take_of_length_le→A8,mem_of_getElem?→Ad,length_cons→AE,length_nil→AH,takeWhile_cons→FZ,mem_append→BU,mem_singleton→Dn,length_drop→Ai,length_pos_iff→Ar,length_append→AA,map_append→Bm
open Bool renaming eq_iff_iff→Dg,not_eq_true'→CM,true_and→BH
open Except.ok renaming injEq→Gk
open Prod.mk renaming injEq→B6
namespace Go.Ab
def kH:AV→Option Nat
 | .own t _ _ _=>some t
 |_=>none
def XM (v w:AV):Prop:=∀t,kH v=some t→kH w≠some t
theorem XM.symm {v w:AV} (h:XM v w):XM w v:=fun t h1 h2=>h t h2 h1
theorem gW (w:AV):XM .AX w:=fun t h=>by cases h
theorem EZ.Vb {σ0 σ σ':AM} {e s:Nat} {rows:List (List DV)} {w:AV} (h:EZ σ0 e s rows w σ) (hle:σ0.le σ') (ht:∀t,kH w=some t→σ.tok t=true→σ'.tok t=true):EZ σ0 e s rows w σ':=by
 obtain ⟨⟨σ1,ha,hl⟩,_,h1,h2,h3,h4,h5,h6,h7⟩:=h
 refine ⟨?_,hle,h1,h2,h3,h4,h5,h6,h7⟩
 unfold P2 at ha ⊢
 split at ha
 · cases ha;exact ⟨σ',rfl,hle⟩
 · rename_i t e' s' rows'
   split at ha
   · rename_i hc
     cases ha
     obtain ⟨q1,q2,q3⟩:=hc
     refine ⟨σ'.FB t,by rw [if_pos ⟨q1,q2,ht t rfl q3⟩],⟨hle.blk,fun t' h'=>?_,hle.gt,hle.bt⟩⟩
     have hne:t'≠t:=fun e=>by
      have:=hl.tok t' h'
      simp [AM.FB,e] at this
     simp [AM.FB,hne,hle.tok t' h']
   · cases ha
 · cases ha
theorem L2.ABW {cx:Cx} {K:Fm→Lm→AM→Prop} {F:Fm} {L:Lm} {σ σ0:AM} {d:Option Nat} {e size bytes:Nat} {s x:AV} {rows srows:List (List DV)} (ho:EZ σ0 e size rows s σ) (h2:x.rows=some srows)
 (h3:∀r∈srows,r.length=size) (h4:rows.length+srows.length≤1000000000) (hb:bytes≤10000)
 (h:∀v σ',EZ σ0 e size (rows++srows) v σ'→(∀i,σ'.blk i=σ.blk i)→(∀e2 s2 rows2 w,EZ σ0 e2 s2 rows2 w σ→XM s w→EZ σ0 e2 s2 rows2 w σ'∧XM v w)→K (Ao d v F) L σ'):L2 e size bytes s x d K F L σ:=by
 obtain ⟨σ1,ha,hl⟩:=ho.app
 have hblk:∀i,σ1.blk i=σ.blk i:=fun i=>by
  unfold P2 at ha
  split at ha
  · cases ha;rfl
  · split at ha
    · cases ha;rfl
    · cases ha
  · cases ha
 have htok:∀t,kH s≠some t→σ.tok t=true→σ1.tok t=true:=fun t hne ht=>by
  unfold P2 at ha
  split at ha
  · cases ha;exact ht
  · rename_i ts e' s' rows'
    split at ha
    · cases ha
      have:t≠ts:=fun e=>hne (by rw [e];rfl)
      simp [AM.FB,this,ht]
    · cases ha
  · cases ha
 refine L2.mk ha h2 h3 (by simp only [maxLen];omega) ?_ (fun t ht=>h _ _ (EZ.own hl ho.le ht) (fun i=>by rw [GA];exact hblk i) (fun e2 s2 rows2 w hw hap=>?_))
 · calc (rows.length+srows.length) * bytes≤1000000000 * 10000:=O0 h4 hb
    _≤140737488355328:=by decide
 · have hwt:∀t',kH w=some t'→σ.tok t'=true:=fun t' h'=>by
    obtain ⟨_,hw1,_⟩:=hw.app
    cases w<;>simp only [kH] at h'<;>try cases h'
    simp only [P2] at hw1
    split at hw1
    · rename_i hc;exact hc.2.2
    · cases hw1
   have hown:=EZ.own (e:=e) (s:=size) (rows:=rows++srows) hl ho.le ht
   refine ⟨hw.Vb hown.le (fun t' h1 h2=>?_),fun t' h1 h3=>?_⟩
   · have:=htok t' (fun e=>hap t' e h1) h2
     simp [AM.D0,this]
   · simp only [kH,AQ] at h1
     subst h1
     rw [hwt _ h3] at ht;cases ht
end Go.Ab
namespace Go.Ab
open Go.Proofs
set_option maxHeartbeats 4000000 in
theorem Y5 (ds:List DE) (fs:List FE) (σ σ3:AM) (j:Nat) (hle:σ.le σ3) (hb:σ3.blk j=some [.d (.int .i64 600)]) (hsj:σ.blk j=none) (hres:DA ⟨ds,fs⟩=(fs.foldlM PX 600).isSome) (hf24:fs.length≤24):
 Run KZ (fun v σ'=>v= .d (.bool (DA ⟨ds,fs⟩))∧σ'=σ) [.code (.loop T2),.blk 6,.code (.seq (.reg [⟨some 2,.mv (.c (.d (.bool true))),none⟩] [2]) .ret)] (put 1 (.lp 1 0) (put 7 (.gp j 0) (put 8 (.d (.int .i64 0)) U))) (BW 1 [.d (.sl (ds.map DE.enc)),.d (.sl (fs.map FE.enc))] E) σ3:=by
 refine Run.B1 ?_
 refine Run.vA (σ':=σ3.AL j [.d (.int .i64 (G8 600))]) (Ic hb) ?_
 refine Run.B7 ((fun (a1:AV) (a7:AV)=>fun (y:Nat×Nat)=>put 1 a1 (put 7 a7 (put 8 (.d (.int .i64 y.1)) U))) _ _) (fun _=>BW 1 [.d (.sl (ds.map DE.enc)),.d (.sl (fs.map FE.enc))] E) (fun y=>σ3.AL j [.d (.int .i64 (G8 y.2))])
  (fun y=>y.1≤fs.length∧y.2≤600∧(fs.take y.1).foldlM PX 600=some y.2) (fun y=>fs.length - y.1) ?_ (0,600) ⟨by simp,by simp,rfl⟩
 rintro ⟨i,q⟩ ⟨hi,hq,hok⟩ ih
 simp only at hi hq hok
 have hσ:∀z:Int,σ.le (σ3.AL j [.d (.int .i64 z)]):=fun z=>YL hle hsj
 by_cases hlt:i < fs.length
 · obtain ⟨x,hx⟩:=Ba hlt
   have he:=BX (enc:=FE.enc) hx
   have hw1:=BQ (show i+1≤9000000000000000000 by omega)
   have hnm:=DI x.name 1 (σ3.AL j [.d (.int .i64 (G8 q))])
   rw [show GJ 1 x.name=DY x.name from rfl] at hnm
   have hps:=Ib x.params true (σ3.AL j [.d (.int .i64 (G8 q))])
   rw [R0] at hps
   have hc:=Wj j 40 q (A7 _) hq x.body (σ3.AL j [.d (.int .i64 (G8 q))]) (by simp only [AO,if_true])
   rw [show ((40:Nat):Int)=40 from rfl] at hc
   have hno:PX q x=none→fs.foldlM PX 600=none:=fun h=>KC hok hx h
   have hyes:∀r,PX q x=some r→(fs.take (i+1)).foldlM PX 600=some r:=fun r h=>by rw [KD hok hx,h]
   have hvf:PX q x=if DY x.name&&(decide (x.params.length≤6)&&x.params.all DY) then vEx 40 q x.body else none:=by
    unfold PX Mw;rw [Bool.and_assoc]
   generalize (decide (x.params.length≤6)&&x.params.all DY)=bp at hps hvf
   cases h1:DY x.name with
   |false=>
    rw [h1] at hnm hvf
    obtain ⟨nm,ps,o,n,u,ns,ks,al⟩:=x
    simp only [FE.enc,Ex.A1] at he hnm
    (repeat' (first|refine Run.ct rfl ?_|((first|refine Run.reg mixed ?_|refine Run.AJ ?_|(refine Run.Aa DF (σ2:=σ) (hσ _) ?_)|refine AG.det (hnm) ?_)<;>try simp -implicitDefEqProofs only [BG hlt,he,AB,go_sem])|fail))
    rw [hres,hno hvf];rfl
   |true=>
   rw [h1] at hnm
   cases bp with
   |false=>
    rw [h1] at hvf
    obtain ⟨nm,ps,o,n,u,ns,ks,al⟩:=x
    simp only [FE.enc,Ex.A1] at he hnm hps
    (repeat' (first|refine Run.ct rfl ?_|((first|refine Run.reg mixed ?_|refine Run.AJ ?_|(refine Run.Aa DF (σ2:=σ) (hσ _) ?_)|refine AG.det (hnm) ?_|refine AG.det (hps) ?_)<;>try simp -implicitDefEqProofs only [BG hlt,he,AB,go_sem])|fail))
    rw [hres,hno hvf];rfl
   |true=>
   rw [h1] at hvf
   cases hv:vEx 40 q x.body with
   |some r=>
    have hr:=S8 _ _ _ _ hv
    rw [hv] at hvf
    have hc:=VXQ.yes hc hv
    have hs:=hyes r hvf
    obtain ⟨nm,ps,o,n,u,ns,ks,al⟩:=x
    simp only [FE.enc,Ex.A1,exA,AF,AI] at he hnm hps hc
    (repeat' (first|refine Run.ct rfl ?_|((first|refine Run.reg mixed ?_|refine Run.AJ ?_|(refine AG.mk rfl hc ?_;rintro _ _ ⟨rfl,rfl⟩)|refine AG.det (hnm) ?_|refine AG.det (hps) ?_)<;>try simp -implicitDefEqProofs only [BG hlt,he,hw1,AB,go_sem])|fail))
    exact ih (i+1,r) ⟨by simp only;omega,by simp only;omega,hs⟩ (by simp only;omega)
   |none=>
    rw [hv] at hvf
    have hc:=VXQ.no hc hv
    obtain ⟨nm,ps,o,n,u,ns,ks,al⟩:=x
    simp only [FE.enc,Ex.A1,exA,AF,AI] at he hnm hps hc
    (repeat' (first|refine Run.ct rfl ?_|((first|refine Run.reg mixed ?_|refine Run.AJ ?_|(refine AG.mk rfl hc ?_;rintro _ _ ⟨rfl,z,rfl⟩)|(refine Run.Aa DF (σ2:=σ) (hσ _) ?_)|refine AG.det (hnm) ?_|refine AG.det (hps) ?_)<;>try simp -implicitDefEqProofs only [BG hlt,he,hw1,AB,go_sem])|fail))
    rw [hres,hno hvf];rfl
 · rw [A8 (by omega)] at hok
   (repeat' (first|refine Run.ct rfl ?_|((first|refine Run.reg mixed ?_|refine Run.AJ ?_|(refine Run.Aa DF (σ2:=σ) (hσ _) ?_))<;>try simp -implicitDefEqProofs only [E0 hlt,AB,go_sem])|fail))
   rw [hres,hok];rfl
set_option maxHeartbeats 4000000 in
theorem fR (p:Pg) (σ:AM) (h:∀d∈p.data,XH d):AR Tryz.prog 20 [pgA p] σ (fun v σ'=>v= .d (.bool (DA p))∧σ'=σ):=by
 obtain ⟨ds,fs⟩:=p
 refine iY (by simp) ?_
 rw [BC,pgA]
 simp only [Pg.enc,AF,AI] at h ⊢
 have h12:decide ((12:Int) < (ds.length:Int))=!decide (ds.length≤12):=gtN _ 12
 have h24:decide ((24:Int) < (fs.length:Int))=!decide (fs.length≤24):=gtN _ 24
 by_cases hd:ds.length≤12
 case neg=>
  (repeat' (first|refine Run.ct rfl ?_|((first|refine Run.reg mixed ?_|refine Run.AJ ?_|refine Run.Aa DF (AM.le_refl _) ?_)<;>try simp -implicitDefEqProofs only [AB,h12,decide_eq_false hd,go_sem])|fail))
  simp [DA,hd]
 by_cases hf:fs.length≤24
 case neg=>
  (repeat' (first|refine Run.ct rfl ?_|((first|refine Run.reg mixed ?_|refine Run.AJ ?_|refine Run.Aa DF (AM.le_refl _) ?_)<;>try simp -implicitDefEqProofs only [AB,h12,decide_eq_true hd,h24,decide_eq_false hf,go_sem])|fail))
  simp [DA,hf]
 have hres:DA ⟨ds,fs⟩=(ds.all Ge&&(fs.foldlM PX 600).isSome):=by simp [DA,hd,hf]
 have hbad:∀d∈ds,Ge d=false→DA ⟨ds,fs⟩=false:=fun d hm hb=>by
  rw [hres,List.all_eq_false.2 ⟨d,hm,by simp [hb]⟩];rfl
 (repeat' (first|refine Run.ct rfl ?_|((first|refine Run.reg mixed ?_|refine Run.AJ ?_)<;>try simp -implicitDefEqProofs only [AB,h12,decide_eq_true hd,h24,decide_eq_true hf,go_sem])|fail))
 refine Run.B1 ?_
 refine Run.B7 ((fun (a1:AV)=>fun (i:Nat)=>put 1 a1 (put 3 (.d (.int .i64 i)) U)) _) (fun _=>BW 1 [.d (.sl (ds.map DE.enc)),.d (.sl (fs.map FE.enc))] E) (fun _=>σ) (fun i=>i≤ds.length∧(ds.take i).all Ge=true) (fun i=>ds.length - i) ?_ 0 ⟨by simp,by simp⟩
 rintro i ⟨hi,hok⟩ ih
 by_cases hlt:i < ds.length
 · obtain ⟨x,hx⟩:=Ba hlt
   have hxm:=Ad hx
   have he:=BX (enc:=DE.enc) hx
   have hw1:=BQ (show i+1≤9000000000000000000 by omega)
   have hxs:=h x hxm
   have hbx:=hbad x hxm
   have hs:=fun hp=>K7 (p:=Ge) hok hx hp
   have hnm:=DI x.name 2 σ
   rw [show GJ 2 x.name=upperB x.name from rfl] at hnm
   have hbs:=Ib x.vars true σ
   rw [R0] at hbs
   have h8:decide ((8:Int) < (x.cons.length:Int))=!decide (x.cons.length≤8):=gtN _ 8
   have hl1:decide ((x.cons.length:Int) < 1)=!decide (1≤x.cons.length):=by
    rw [Dg];simp only [decide_eq_true_eq,CM,decide_eq_false_iff_not];omega
   have hdx:Ge x=(((upperB x.name&&(decide (x.vars.length≤6)&&x.vars.all DY))&&(decide (1≤x.cons.length)&&decide (x.cons.length≤8)))&&x.cons.all Rb):=by
    simp [Ge,Bool.and_assoc]
   obtain ⟨nm,vs,cs⟩:=x
   simp only [DE.enc] at he hnm hbs h8 hl1 hdx hxs
   cases hA:upperB nm with
   |false=>
    rw [hA] at hnm hdx
    (repeat' (first|refine Run.ct rfl ?_|((first|refine Run.reg mixed ?_|refine Run.AJ ?_|refine Run.Aa DF (AM.le_refl _) ?_|refine AG.det (hnm) ?_)<;>try simp -implicitDefEqProofs only [BG hlt,he,AB,go_sem])|fail))
    rw [hbx hdx]
   |true=>
   rw [hA] at hnm
   cases hB:(decide (vs.length≤6)&&vs.all DY) with
   |false=>
    rw [hB] at hbs
    rw [hA,hB] at hdx
    (repeat' (first|refine Run.ct rfl ?_|((first|refine Run.reg mixed ?_|refine Run.AJ ?_|refine Run.Aa DF (AM.le_refl _) ?_|refine AG.det (hnm) ?_|refine AG.det (hbs) ?_)<;>try simp -implicitDefEqProofs only [BG hlt,he,AB,go_sem])|fail))
    rw [hbx hdx]
   |true=>
   rw [hB] at hbs
   by_cases hC:1≤cs.length
   case neg=>
    rw [decide_eq_false hC] at hl1 hdx
    (repeat' (first|refine Run.ct rfl ?_|((first|refine Run.reg mixed ?_|refine Run.AJ ?_|refine Run.Aa DF (AM.le_refl _) ?_|refine AG.det (hnm) ?_|refine AG.det (hbs) ?_)<;>try simp -implicitDefEqProofs only [BG hlt,he,AB,hl1,go_sem])|fail))
    rw [hbx (by rw [hdx];simp)]
   rw [decide_eq_true hC] at hl1
   by_cases hD:cs.length≤8
   case neg=>
    rw [decide_eq_false hD] at h8 hdx
    (repeat' (first|refine Run.ct rfl ?_|((first|refine Run.reg mixed ?_|refine Run.AJ ?_|refine Run.Aa DF (AM.le_refl _) ?_|refine AG.det (hnm) ?_|refine AG.det (hbs) ?_)<;>try simp -implicitDefEqProofs only [BG hlt,he,AB,hl1,h8,go_sem])|fail))
    rw [hbx (by rw [hdx];simp)]
   rw [decide_eq_true hD] at h8
   rw [hA,hB,decide_eq_true hC,decide_eq_true hD] at hdx
   simp only [Bool.and_self,BH] at hdx
   rw [hdx] at hbx hs
   (repeat' (first|refine Run.ct rfl ?_|((first|refine Run.reg mixed ?_|refine Run.AJ ?_|refine AG.det (hnm) ?_|refine AG.det (hbs) ?_)<;>try simp -implicitDefEqProofs only [BG hlt,he,AB,hl1,h8,go_sem])|fail))
   refine Run.B1 ?_
   refine Run.B7 ((fun (a1:AV) (a3:AV) (a4:AV)=>fun (k:Nat)=>put 1 a1 (put 3 a3 (put 4 a4 (put 5 (.d (.int .i64 k)) U)))) _ _ _) (fun _=>BW 1 [.d (.sl (ds.map DE.enc)),.d (.sl (fs.map FE.enc))] (BW 4 [.d (.str nm),.d (.sl (vs.map Cn)),.d (.sl (cs.map CE.enc))] E)) (fun _=>σ) (fun k=>k≤cs.length∧(cs.take k).all Rb=true) (fun k=>cs.length - k) ?_ 0 ⟨by simp,by simp⟩
   rintro k ⟨hk,hokc⟩ ih2
   by_cases hkl:k < cs.length
   · obtain ⟨c,hc⟩:=Ba hkl
     have hcm:=Ad hc
     have hec:=BX (enc:=CE.enc) hc
     have hwk:=BQ (show k+1≤9000000000000000000 by omega)
     have hcs:=hxs c hcm
     have hbc:Rb c=false→DA ⟨ds,fs⟩=false:=fun hb=>hbx (List.all_eq_false.2 ⟨c,hcm,by simp [hb]⟩)
     have hsc:=fun hp=>K7 (p:=Rb) hokc hc hp
     have hcn:=DI c.name 2 σ
     rw [show GJ 2 c.name=upperB c.name from rfl] at hcn
     have h6:decide ((6:Int) < (c.args.length:Int))=!decide (c.args.length≤6):=gtN _ 6
     have hcx:Rb c=(upperB c.name&&decide (c.args.length≤6)&&c.args.all (Bl 40)):=rfl
     obtain ⟨cn,ar⟩:=c
     simp only [CE.enc] at hec hcn h6 hcx hcs
     cases hE:upperB cn with
     |false=>
      rw [hE] at hcn hcx
      (repeat' (first|refine Run.ct rfl ?_|((first|refine Run.reg mixed ?_|refine Run.AJ ?_|refine Run.Aa DF (AM.le_refl _) ?_|refine AG.det (hcn) ?_)<;>try simp -implicitDefEqProofs only [BG hkl,hec,AB,go_sem])|fail))
      rw [hbc hcx]
     |true=>
     rw [hE] at hcn
     by_cases hF:ar.length≤6
     case neg=>
      rw [decide_eq_false hF] at h6 hcx
      (repeat' (first|refine Run.ct rfl ?_|((first|refine Run.reg mixed ?_|refine Run.AJ ?_|refine Run.Aa DF (AM.le_refl _) ?_|refine AG.det (hcn) ?_)<;>try simp -implicitDefEqProofs only [BG hkl,hec,AB,h6,go_sem])|fail))
      rw [hbc (by rw [hcx];simp)]
     rw [decide_eq_true hF] at h6
     rw [hE,decide_eq_true hF] at hcx
     simp only [Bool.and_self,BH] at hcx
     rw [hcx] at hbc hsc
     (repeat' (first|refine Run.ct rfl ?_|((first|refine Run.reg mixed ?_|refine Run.AJ ?_|refine AG.det (hcn) ?_)<;>try simp -implicitDefEqProofs only [BG hkl,hec,AB,h6,go_sem])|fail))
     refine Run.B1 ?_
     refine Run.B7 ((fun (a1:AV) (a3:AV) (a4:AV) (a5:AV)=>fun (a:Nat)=>put 1 a1 (put 3 a3 (put 4 a4 (put 5 a5 (put 6 (.d (.int .i64 a)) U))))) _ _ _ _) (fun _=>BW 1 [.d (.sl (ds.map DE.enc)),.d (.sl (fs.map FE.enc))] (BW 4 [.d (.str nm),.d (.sl (vs.map Cn)),.d (.sl (cs.map CE.enc))] E)) (fun _=>σ) (fun a=>a≤ar.length∧(ar.take a).all (Bl 40)=true) (fun a=>ar.length - a) ?_ 0 ⟨by simp,by simp⟩
     rintro a ⟨ha,hoka⟩ ih3
     by_cases hal:a < ar.length
     · obtain ⟨t,ht⟩:=Ba hal
       have htm:=Ad ht
       have het:=BX (enc:=TE.enc) ht
       have hwa:=BQ (show a+1≤9000000000000000000 by omega)
       have hv:=Wk 40 t σ (A7 _) (hcs t htm)
       rw [show ((40:Nat):Int)=40 from rfl] at hv
       cases hp:Bl 40 t with
       |true=>
        rw [hp] at hv
        obtain ⟨tk,tn,tl⟩:=t
        simp only [TE.A1,teA,AF,AI] at het hv
        (repeat' (first|refine Run.ct rfl ?_|((first|refine Run.reg mixed ?_|refine Run.AJ ?_|refine AG.det (hv) ?_)<;>try simp -implicitDefEqProofs only [BG hal,hec,het,hwa,AB,go_sem])|fail))
        exact ih3 (a+1) ⟨by omega,K7 hoka ht hp⟩ (by omega)
       |false=>
        rw [hp] at hv
        obtain ⟨tk,tn,tl⟩:=t
        simp only [TE.A1,teA,AF,AI] at het hv
        (repeat' (first|refine Run.ct rfl ?_|((first|refine Run.reg mixed ?_|refine Run.AJ ?_|refine Run.Aa DF (AM.le_refl _) ?_|refine AG.det (hv) ?_)<;>try simp -implicitDefEqProofs only [BG hal,hec,het,hwa,AB,go_sem])|fail))
        rw [hbc (X4 ht hp)]
     · rw [A8 (by omega)] at hoka
       (repeat' (first|refine Run.ct rfl ?_|((first|refine Run.reg mixed ?_|refine Run.AJ ?_)<;>try simp -implicitDefEqProofs only [E0 hal,hec,hwk,AB,go_sem])|fail))
       exact ih2 (k+1) ⟨by omega,hsc hoka⟩ (by omega)
   · rw [A8 (by omega)] at hokc
     (repeat' (first|refine Run.ct rfl ?_|((first|refine Run.reg mixed ?_|refine Run.AJ ?_)<;>try simp -implicitDefEqProofs only [E0 hkl,hw1,AB,go_sem])|fail))
     exact ih (i+1) ⟨by omega,hs hokc⟩ (by omega)
 · rw [A8 (by omega)] at hok
   rw [hok,BH] at hres
   clear ih
   (repeat' (first|refine Run.ct rfl ?_|((first|refine Run.reg mixed ?_|refine Run.AJ ?_)<;>try simp -implicitDefEqProofs only [E0 hlt,AB,go_sem])|fail))
   intro j hj
   obtain ⟨hle3,hb⟩:=pY (z:=[.d (.int .i64 0)]) (x:=([AV.d (.int .i64 0)].length,3)) hj
   simp only [AE,AH,B9] at hle3 hb
   generalize (σ.AL j [.d (.int .i64 0)]).GX j (1,3)=σ3 at hle3 hb ⊢
   simp -implicitDefEqProofs only [hb,go_sem]
   (repeat' (first|refine Run.ct rfl ?_|((first|refine Run.reg mixed ?_|refine Run.AJ ?_)<;>try simp -implicitDefEqProofs only [hb,AB,go_sem])|fail))
   exact Y5 ds fs σ (σ3.AL j [.d (.int .i64 600)]) j (YL hle3 hj.1) (by simp only [AO,if_true]) hj.1 hres hf
end Go.Ab
namespace Go.Ab
open Go.Proofs
theorem tC {s:Str} {k:Int} {t:Str} (h:D3 s= .ok (k,t)) (hl:s.length≤20000) (hk:k=3):fD t:=by
 match s,h with
 |b::r,h=>
  simp only [D3] at h
  split at h
  · split at h
    · cases h
    · split at h
      · cases h;omega
      · split at h<;>(cases h;omega)
  · split at h
    · rename_i hd
      split at h
      · cases h
      · split at h
        · rename_i hv
          simp only [Gk,B6] at h
          obtain ⟨_,rfl⟩:=h
          refine .inr ⟨?_,pX,hv,BD (Ef _ _) hl⟩
          rw [FZ,if_pos (show CL Eg b=true from hd)];simp
        · cases h
    · split at h
      · cases h
      · cases h;omega
theorem XI:∀(n:Nat) (rest:Str) (i:Nat) (acc:List Tok),rest.length≤20000→NOk acc→(DZ n rest i acc).2.2=0→NOk (DZ n rest i acc).1
 |0,rest,i,acc,_,_,_=>fun t ht=>by cases ht
 |n+1,[],i,acc,_,ha,_=>fun t ht hk=>by
  rcases BU.1 ht with ht|ht
  · exact ha t ht hk
  · rw [Dn] at ht;subst ht;cases hk
 |n+1,b::r,i,acc,hl,ha,h=>by
  rw [DZ] at h ⊢
  split at h
  · rename_i hb
    rw [if_pos hb]
    exact XI n r (i+1) acc (by simp at hl;omega) ha h
  · rename_i hb
    rw [if_neg hb]
    split at h
    · rename_i hc
      rw [if_pos hc]
      exact XI n _ _ acc (by rw [Ai];omega) ha h
    · rename_i hc
      rw [if_neg hc]
      cases hs:D3 (b::r) with
      |error e=>
       rw [hs] at h
       simp only at h
       rcases PL hs with rfl|rfl<;>cases h
      |ok x=>
       obtain ⟨k,t⟩:=x
       rw [hs] at h
       simp only at h ⊢
       refine XI n _ _ _ (by rw [Ai];omega) (fun u hu hk=>?_) h
       rcases BU.1 hu with hu|hu
       · exact ha u hu hk
       · rw [Dn] at hu;subst hu;exact tC hs hl hk
theorem pB {s:Str} (h:(BJ s).2.2=0):NOk (BJ s).1:=by
 unfold BJ at h ⊢
 split at h
 · cases h
 · rename_i hl
   rw [if_neg hl]
   exact XI _ s 0 [] (by omega) (fun t ht=>by cases ht) h
theorem y0 (i:Nat) (L:List Tok):PC 129 [.gp i 0] i L BI fF ceA:=by
 intro σ s0 g0 h0 l0 b0
 refine TA (by simp) ?_
 rw [BC]
 simp only [fF,tyR,run_bind,run_pure,ceA,CE.enc,AF,AI]
 (have c0:=(S7 i L BI) σ s0 g0 h0 (by omega) b0;have h1:=h0.run (FU);have l1:=PM.le (FU) h0.wf;generalize (FU).run s0=y at c0 h1 l1 ⊢;obtain ⟨x0,s1⟩:=y;simp only at c0 h1 l1 ⊢;have b1:(σ.AL i (psA L s1)).blk i=some (psA L s1):=(by rw [AO,if_pos rfl]))
 (have c1:=((JS i L BI Xx (tR i L BI)).pc.mono (Nat.le_succ BI)) (σ.AL i (psA L s1)) s1 g0 h1 (by omega) b1;rw [A2] at c1;have h2:=h1.run (IT (Fp BI));have l2:=PM.le (IT (Fp BI)) h1.wf;generalize (IT (Fp BI)).run s1=y at c1 h2 l2 ⊢;obtain ⟨x1,s2⟩:=y;simp only at c1 h2 l2 ⊢;have b2:(σ.AL i (psA L s2)).blk i=some (psA L s2):=(by rw [AO,if_pos rfl]))
 (repeat' (first|refine Run.ct rfl ?_|((first|refine Run.reg mixed ?_|refine Run.AJ ?_|refine Run.Aa MB (AM.le_refl _) ?_|(refine AG.upd c0 ?_)|(refine AG.upd c1 ?_)|(refine AP rfl (fun h=>?_) (fun h=>?_)<;>try (cases h;done)))<;>try simp -implicitDefEqProofs only [go_sem])|(refine ⟨fun h=>?_,fun h=>?_⟩<;>first|(cases h;done)|try simp only [h])|fail))
theorem uQ (i:Nat) (L:List Tok):PC 66 [.gp i 0] i L BI Ti deA:=by
 intro σ s0 g0 h0 l0 b0
 refine Ro (by simp) ?_
 rw [BC]
 simp only [Ti,run_bind,run_pure,deA,DE.enc,AF,AI]
 (have c0:=(S7 i L BI) σ s0 g0 h0 (by omega) b0;have h1:=h0.run (FU);have l1:=PM.le (FU) h0.wf;generalize (FU).run s0=y at c0 h1 l1 ⊢;obtain ⟨x0,s1⟩:=y;simp only at c0 h1 l1 ⊢;have b1:(σ.AL i (psA L s1)).blk i=some (psA L s1):=(by rw [AO,if_pos rfl]))
 (have c1:=((Ot i L BI bU (QD i L BI)).pc.mono (Nat.le_succ BI)) (σ.AL i (psA L s1)) s1 g0 h1 (by omega) b1;rw [A2] at c1;have h2:=h1.run (IT Fc);have l2:=PM.le (IT Fc) h1.wf;generalize (IT Fc).run s1=y at c1 h2 l2 ⊢;obtain ⟨x1,s2⟩:=y;simp only at c1 h2 l2 ⊢;have b2:(σ.AL i (psA L s2)).blk i=some (psA L s2):=(by rw [AO,if_pos rfl]))
 (have c2:=(DD i L BI [61] (by decide)) (σ.AL i (psA L s2)) s2 g0 h2 (by omega) b2;rw [A2] at c2;have h3:=h2.run (PM.exp [61] (by decide));have l3:=PM.le (PM.exp [61] (by decide)) h2.wf;generalize (PM.exp [61] (by decide)).run s2=y at c2 h3 l3 ⊢;obtain ⟨x2,s3⟩:=y;simp only at c2 h3 l3 ⊢;have b3:(σ.AL i (psA L s3)).blk i=some (psA L s3):=(by rw [AO,if_pos rfl]))
 (have c3:=(SC i L BI zJ (y0 i L) [124] (by decide)).pc (σ.AL i (psA L s3)) s3 g0 h3 (by omega) b3;rw [A2] at c3;have h4:=h3.run (items fF [124] (by decide));have l4:=PM.le (items fF [124] (by decide)) h3.wf;generalize (items fF [124] (by decide)).run s3=y at c3 h4 l4 ⊢;obtain ⟨x3,s4⟩:=y;simp only at c3 h4 l4 ⊢;have b4:(σ.AL i (psA L s4)).blk i=some (psA L s4):=(by rw [AO,if_pos rfl]))
 (have c4:=(DD i L BI [59] (by decide)) (σ.AL i (psA L s4)) s4 g0 h4 (by omega) b4;rw [A2] at c4;have h5:=h4.run (PM.exp [59] (by decide));have l5:=PM.le (PM.exp [59] (by decide)) h4.wf;generalize (PM.exp [59] (by decide)).run s4=y at c4 h5 l5 ⊢;obtain ⟨x4,s5⟩:=y;simp only at c4 h5 l5 ⊢;have b5:(σ.AL i (psA L s5)).blk i=some (psA L s5):=(by rw [AO,if_pos rfl]))
 (repeat' (first|refine Run.ct rfl ?_|((first|refine Run.reg mixed ?_|refine Run.AJ ?_|refine Run.Aa Kx (AM.le_refl _) ?_|(refine AG.upd c0 ?_)|(refine AG.upd c1 ?_)|(refine AG.upd c2 ?_)|(refine AG.upd c3 ?_)|(refine AG.upd c4 ?_)|(refine AP rfl (fun h=>?_) (fun h=>?_)<;>try (cases h;done)))<;>try simp -implicitDefEqProofs only [go_sem])|(refine ⟨fun h=>?_,fun h=>?_⟩<;>first|(cases h;done)|try simp only [h])|fail))
theorem zF (i:Nat) {L:List Tok} (hN:NOk L):PC 67 [.gp i 0] i L BI Zd feA:=by
 intro σ s0 g0 h0 l0 b0
 refine TB (by simp) ?_
 rw [BC]
 simp only [Zd,exR,run_bind,run_pure]
 (have c0:=(QD i L BI) σ s0 g0 h0 (by omega) b0;have h1:=h0.run (Fc);have l1:=PM.le (Fc) h0.wf;generalize (Fc).run s0=y at c0 h1 l1 ⊢;obtain ⟨x0,s1⟩:=y;simp only at c0 h1 l1 ⊢;have b1:(σ.AL i (psA L s1)).blk i=some (psA L s1):=(by rw [AO,if_pos rfl]))
 (have c1:=(DD i L BI [40] (by decide)) (σ.AL i (psA L s1)) s1 g0 h1 (by omega) b1;rw [A2] at c1;have h2:=h1.run (PM.exp [40] (by decide));have l2:=PM.le (PM.exp [40] (by decide)) h1.wf;generalize (PM.exp [40] (by decide)).run s1=y at c1 h2 l2 ⊢;obtain ⟨x1,s2⟩:=y;simp only at c1 h2 l2 ⊢;have b2:(σ.AL i (psA L s2)).blk i=some (psA L s2):=(by rw [AO,if_pos rfl]))
 (have c2:=(O7 i L BI bU (QD i L BI)).pc (σ.AL i (psA L s2)) s2 g0 h2 (by omega) b2;rw [A2] at c2;have h3:=h2.run (closed Fc);have l3:=PM.le (closed Fc) h2.wf;generalize (closed Fc).run s2=y at c2 h3 l3 ⊢;obtain ⟨x2,s3⟩:=y;simp only at c2 h3 l3 ⊢;have b3:(σ.AL i (psA L s3)).blk i=some (psA L s3):=(by rw [AO,if_pos rfl]))
 (have c3:=(DD i L BI [61] (by decide)) (σ.AL i (psA L s3)) s3 g0 h3 (by omega) b3;rw [A2] at c3;have h4:=h3.run (PM.exp [61] (by decide));have l4:=PM.le (PM.exp [61] (by decide)) h3.wf;generalize (PM.exp [61] (by decide)).run s3=y at c3 h4 l4 ⊢;obtain ⟨x3,s4⟩:=y;simp only at c3 h4 l4 ⊢;have b4:(σ.AL i (psA L s4)).blk i=some (psA L s4):=(by rw [AO,if_pos rfl]))
 (have c4:=(k9 i hN BI) (σ.AL i (psA L s4)) s4 g0 h4 (by omega) b4;rw [A2] at c4;have h5:=h4.run (Bz BI);have l5:=PM.le (Bz BI) h4.wf;generalize (Bz BI).run s4=y at c4 h5 l5 ⊢;obtain ⟨x4,s5⟩:=y;simp only at c4 h5 l5 ⊢;have b5:(σ.AL i (psA L s5)).blk i=some (psA L s5):=(by rw [AO,if_pos rfl]);obtain ⟨o4,n4,u4,ns4,ks4,al4⟩:=x4;simp only [exA,Ex.A1,AF,AI] at c4 ⊢)
 (have c5:=(DD i L BI [59] (by decide)) (σ.AL i (psA L s5)) s5 g0 h5 (by omega) b5;rw [A2] at c5;have h6:=h5.run (PM.exp [59] (by decide));have l6:=PM.le (PM.exp [59] (by decide)) h5.wf;generalize (PM.exp [59] (by decide)).run s5=y at c5 h6 l6 ⊢;obtain ⟨x5,s6⟩:=y;simp only at c5 h6 l6 ⊢;have b6:(σ.AL i (psA L s6)).blk i=some (psA L s6):=(by rw [AO,if_pos rfl]))
 simp only [feA,FE.enc,Ex.A1,AF,AI]
 (repeat' (first|refine Run.ct rfl ?_|((first|refine Run.reg mixed ?_|refine Run.AJ ?_|refine Run.Aa MC (AM.le_refl _) ?_|(refine AG.upd c0 ?_)|(refine AG.upd c1 ?_)|(refine AG.upd c2 ?_)|(refine AG.upd c3 ?_)|(refine AG.upd c4 ?_)|(refine AG.upd c5 ?_)|(refine AP rfl (fun h=>?_) (fun h=>?_)<;>try (cases h;done)))<;>try simp -implicitDefEqProofs only [go_sem])|(refine ⟨fun h=>?_,fun h=>?_⟩<;>first|(cases h;done)|try simp only [h])|fail))
theorem XR.of {σ τ:AM} {i e z:Nat} {rows:List (List DV)} {v:AV} (hg:XR σ) (h:EZ (σ.Ds i) e z rows v τ):XR τ:=by
 obtain ⟨te,pe,he⟩:=hg
 exact ⟨te,pe,by rw [← h.le.gt];exact he⟩
set_option maxHeartbeats 2000000 in
theorem j0 (i:Nat) {L:List Tok} (hN:NOk L):PC 28 [.gp i 0] i L BI NJ pgA:=by
 intro σ s0 g0 h0 l0 b0
 refine Og (by simp) ?_
 rw [BC]
 (repeat' (first|refine Run.ct rfl ?_|((first|refine Run.reg mixed ?_|refine Run.AJ ?_|(refine AP rfl (fun h=>?_) (fun h=>?_)<;>try (cases h;done)))<;>try simp -implicitDefEqProofs only [go_sem])|(refine ⟨fun h=>?_,fun h=>?_⟩<;>first|(cases h;done)|try simp only [h])|fail))
 refine Run.B1 ?_
 have hf0:=F6
 have hl0:=h0.suf.length_le
 have hl1:=h0.len
 have hdel:(σ.Ds i).le σ:=⟨fun j c hj=>by
  have:j≠i:=fun e=>by rw [e] at hj;simp [AM.Ds] at hj
  simpa [AM.Ds,this] using hj,fun _ h=>h,rfl,fun _ _ h=>h⟩
 refine Run.B7 (α:=PSt×List DE×List FE×Nat×AV×AV×AM) (fun _=>put 0 (.gp i 0) (put 2 (.lp 2 0) (put 3 (.lp 3 0) U))) (fun y=>BW 2 [.AX,.AX] (BW 3 [y.2.2.2.2.1,y.2.2.2.2.2.1] Ab.E)) (fun y=>y.2.2.2.2.2.2)
  (fun y=>POk L y.1∧y.1.r.length≤y.2.2.2.1∧y.2.1.length+y.2.2.1.length+y.1.r.length≤17000∧EZ (σ.Ds i) 61 3 (y.2.1.map DE.enc) y.2.2.2.2.1 y.2.2.2.2.2.2∧EZ (σ.Ds i) 66 8 (y.2.2.1.map FE.enc) y.2.2.2.2.2.1 y.2.2.2.2.2.2∧XM y.2.2.2.2.1 y.2.2.2.2.2.1∧y.2.2.2.2.2.2.blk i=some (psA L y.1)∧(MF y.2.2.2.1 y.2.1 y.2.2.1).run y.1=NJ.run s0) (fun y=>y.1.r.length) ?_ (s0,[],[],BI,.AX,.AX,σ)
  ⟨h0,by simp only;omega,by simp;omega,EZ.mono (EZ.nil σ _ _) hdel,EZ.mono (EZ.nil σ _ _) hdel,gW _,b0,rfl⟩
 rintro ⟨s2,ds,fs,q,vd,vf,τ⟩ ⟨p1,p2,p3,p4,p5,p6,p7,p8⟩ ih
 simp only at p1 p2 p3 p4 p5 p6 p7 p8
 obtain ⟨q,rfl⟩:∃m,q=m+1:=⟨q - 1,by have:=Ar.2 p1.wf.ne;omega⟩
 rw [sU] at p8
 have hpk:=QF p1 τ p7
 have hgt:XR τ:=g0.of p4
 have hn1:vd.BS 3=false:=p4.BS 3
 cases hk:s2.hd.kind==6 with
 |true=>
  rw [hk,if_pos rfl] at p8
  rw [← p8]
  have hne:(s2.hd.kind != 6)=false:=by unfold bne;rw [hk];rfl
  simp only [pgA,Pg.enc,AF,AI]
  have hle:=(LS.mk p4 p7:LS σ i L s2 _ _ _ _ _).le
  (repeat' (first|refine Run.ct rfl ?_|((first|refine Run.reg mixed ?_|refine Run.AJ ?_|(refine Run.Aa I5 hle ?_)|refine AG.det (hpk) ?_|(refine AP rfl (fun h=>?_) (fun h=>?_)<;>try (cases h;done)))<;>try simp -implicitDefEqProofs only [hne,p4.BS,p5.BS,p4.Au,p5.Au,p4.cell,p5.cell,p4.plain,p5.plain,if_true,go_sem])|(refine ⟨fun h=>?_,fun h=>?_⟩<;>first|(cases h;done)|try simp only [h])|fail))
 |false=>
  have hne:(s2.hd.kind != 6)=true:=by unfold bne;rw [hk];rfl
  rw [hk,if_neg (by decide)] at p8
  cases t1:s2.hd.text==[100,97,116,97] with
  |true=>
   rw [t1,if_pos rfl] at p8
   have c1:=DC p1 _ τ p7 t1
   have h3:=p1.adv (t:=[100,97,116,97]) (by decide) t1
   have l3:=BV p1.wf
   generalize s2.adv=s3 at c1 h3 l3 p8
   have c2:=uQ i L (τ.AL i (psA L s3)) s3 hgt h3 (by omega) (by rw [AO,if_pos rfl])
   rw [A2] at c2
   have h4:=h3.run Ti
   have l4:=PM.le Ti h3.wf
   generalize Ti.run s3=y at c2 h4 l4 p8
   obtain ⟨d,s4⟩:=y
   simp only at c2 h4 l4 p8
   obtain ⟨dn,dv,dc⟩:=d
   simp only [deA,DE.enc,AF,AI] at c2
   have q4:=p4.j7 (Mp σ i) (psA L s4)
   have q5:=p5.j7 (Mp σ i) (psA L s4)
   (repeat' (first|refine Run.ct rfl ?_|((first|refine Run.reg mixed ?_|refine Run.AJ ?_|(refine AG.upd c1 ?_)|(refine AG.upd c2 ?_)|refine AG.det (hpk) ?_|(refine AP rfl (fun h=>?_) (fun h=>?_)<;>try (cases h;done)))<;>try simp -implicitDefEqProofs only [hne,p4.BS,p5.BS,p4.cell,p5.cell,p4.cells,p5.cells,if_true,go_sem])|(refine ⟨fun h=>?_,fun h=>?_⟩<;>first|(cases h;done)|try simp only [h])|fail))
   (apply L2.ABW (cx:=Bi) q4;rfl;simp;(simp only [AB,AE,AH];omega);decide;intro v2 τ2 ho hbk hkp)
   obtain ⟨r5,r6⟩:=hkp _ _ _ _ q5 p6
   simp -implicitDefEqProofs only [ho.BS,ho.Au,ho.cells,ho.cell,p4.cell,p5.cell,if_true,go_sem]
   (repeat' (first|refine Run.ct rfl ?_|((first|refine Run.reg mixed ?_|refine Run.AJ ?_|(refine AP rfl (fun h=>?_) (fun h=>?_)<;>try (cases h;done)))<;>try simp -implicitDefEqProofs only [ho.BS,ho.Au,ho.cells,ho.cell,go_sem])|(refine ⟨fun h=>?_,fun h=>?_⟩<;>first|(cases h;done)|try simp only [h])|fail))
   refine ih (s4,ds++[⟨dn,dv,dc⟩],fs,q,v2,vf,τ2) ⟨h4,by simp only;omega,by simp only [AA,AE,AH];omega,?_,r5,r6,by simp [hbk,AO],p8⟩ (by simp only;omega)
   simp only [Bm,AF,AI,DE.enc]
   exact ho
  |false=>
  have f1:=DB p1 _ τ p7 t1
  rw [t1,if_neg (by decide)] at p8
  cases t2:s2.hd.text==[102,117,110] with
  |true=>
   rw [t2,if_pos rfl] at p8
   have c1:=DC p1 _ τ p7 t2
   have h3:=p1.adv (t:=[102,117,110]) (by decide) t2
   have l3:=BV p1.wf
   generalize s2.adv=s3 at c1 h3 l3 p8
   have c2:=zF i hN (τ.AL i (psA L s3)) s3 hgt h3 (by omega) (by rw [AO,if_pos rfl])
   rw [A2] at c2
   have h4:=h3.run Zd
   have l4:=PM.le Zd h3.wf
   generalize Zd.run s3=y at c2 h4 l4 p8
   obtain ⟨d,s4⟩:=y
   simp only at c2 h4 l4 p8
   obtain ⟨fn,fp,fb⟩:=d
   obtain ⟨o0,n0,u0,ns0,ks0,al0⟩:=fb
   simp only [feA,FE.enc,Ex.A1,AF,AI] at c2
   have q4:=p4.j7 (Mp σ i) (psA L s4)
   have q5:=p5.j7 (Mp σ i) (psA L s4)
   (repeat' (first|refine Run.ct rfl ?_|((first|refine Run.reg mixed ?_|refine Run.AJ ?_|(refine AG.upd c1 ?_)|(refine AG.upd c2 ?_)|refine AG.det (hpk) ?_|refine AG.det (f1) ?_|(refine AP rfl (fun h=>?_) (fun h=>?_)<;>try (cases h;done)))<;>try simp -implicitDefEqProofs only [hne,p4.BS,p5.BS,p4.cell,p5.cell,p4.cells,p5.cells,if_true,go_sem])|(refine ⟨fun h=>?_,fun h=>?_⟩<;>first|(cases h;done)|try simp only [h])|fail))
   (apply L2.ABW (cx:=Bi) q5;rfl;simp;(simp only [AB,AE,AH];omega);decide;intro v2 τ2 ho hbk hkp)
   obtain ⟨r5,r6⟩:=hkp _ _ _ _ q4 p6.symm
   simp -implicitDefEqProofs only [ho.BS,ho.Au,ho.cells,ho.cell,p4.cell,p5.cell,if_true,go_sem]
   (repeat' (first|refine Run.ct rfl ?_|((first|refine Run.reg mixed ?_|refine Run.AJ ?_|(refine AP rfl (fun h=>?_) (fun h=>?_)<;>try (cases h;done)))<;>try simp -implicitDefEqProofs only [ho.BS,ho.Au,ho.cells,ho.cell,go_sem])|(refine ⟨fun h=>?_,fun h=>?_⟩<;>first|(cases h;done)|try simp only [h])|fail))
   refine ih (s4,ds,fs++[⟨fn,fp,.mk o0 n0 u0 ns0 ks0 al0⟩],q,vd,v2,τ2) ⟨h4,by simp only;omega,by simp only [AA,AE,AH];omega,r5,?_,r6.symm,by simp [hbk,AO],p8⟩ (by simp only;omega)
   simp only [Bm,AF,AI,FE.enc,Ex.A1]
   exact ho
  |false=>
  have f2:=DB p1 _ τ p7 t2
  rw [t2,if_neg (by decide)] at p8
  have c1:=Um p1 τ p7
  have h3:=p1.fail
  have l3:=eE p1.wf
  have h2':=AAM p1.wf hk
  have q4:=p4.j7 (Mp σ i) (psA L s2.fail)
  have q5:=p5.j7 (Mp σ i) (psA L s2.fail)
  (repeat' (first|refine Run.ct rfl ?_|((first|refine Run.reg mixed ?_|refine Run.AJ ?_|(refine AG.upd c1 ?_)|refine AG.det (hpk) ?_|refine AG.det (f1) ?_|refine AG.det (f2) ?_|(refine AP rfl (fun h=>?_) (fun h=>?_)<;>try (cases h;done)))<;>try simp -implicitDefEqProofs only [hne,p4.BS,p5.BS,p4.cell,p5.cell,p4.cells,p5.cells,if_true,go_sem])|(refine ⟨fun h=>?_,fun h=>?_⟩<;>first|(cases h;done)|try simp only [h])|fail))
  exact ih (s2.fail,ds,fs,q,vd,vf,_) ⟨h3,by simp only;omega,by simp only;omega,q4,q5,p6,by simp [AO],p8⟩ (by simp only;omega)
end Go.Ab
