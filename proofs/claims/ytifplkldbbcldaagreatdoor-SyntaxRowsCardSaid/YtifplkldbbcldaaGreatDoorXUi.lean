/- Valid programs. The printer: declarations, programs. Conditions: none. -/
import Derived.Test.YtifplkldbbcldaaGreatDoorXUf
set_option linter.unusedSimpArgs false
set_option linter.unusedVariables false
set_option maxRecDepth 4000
set_option maxHeartbeats 8000000
open Bool renaming eq_iff_iff→Di,and_eq_true→AL,true_and→BG,and_false→D5,false_eq_true→AU
open Nat renaming le_refl→A7,le_trans→Ay
open List renaming map_cons→AF,map_nil→AI,length_map→AE,mem_of_getElem?→Ae,take_of_length_le→Ad,all_eq_true→A5,length_cons→AD,length_append→AA,length_nil→AG,append_assoc→AS,cons_append→AY,nil_append→A6,append_nil→A1,flatten_append→MC,map_append→BU,take_append_drop→D4
namespace Go.Ab
open Go.Proofs
def lA (c:CE):Prop:=∀t∈c.args,t.size≤1000000
def cD (d:DE):Prop:=∀c∈d.cons,lA c
theorem yG {b c:Bool} (h:b=true↔c=true):AV.d (.bool b)=AV.d (.bool c):=by rw [Di.2 h]
theorem Vt (t:TE) (σ:AN) (h:t.size≤1000000):AQ Tryz.prog 105 [teA t] σ (fun v σ'=>v= .d (.bool (Bo 40 t))∧σ'=σ):=by
 refine Pm (by simp) ?_
 rw [BE]
 have hc:=TI 40 (A7 _) t σ h
 rw [show ((41 - 40:Nat):Int)=1 from rfl] at hc
 obtain ⟨k,n,l⟩:=t
 simp only [TE.A0,teA,AF,AI] at hc ⊢
 (repeat' (first|refine Run.ct rfl ?_|((first|refine Run.reg mixed ?_|refine Run.AJ ?_|refine Run.A9 JM (AN.le_refl _) ?_|refine AH.det (hc) ?_)<;>try simp -implicitDefEqProofs only [go_sem])|fail))
theorem Yo (c:CE) (σ:AN) (h:lA c):AQ Tryz.prog 103 [ceA c] σ (fun v σ'=>v= .d (.bool (Q9 c))∧σ'=σ):=by
 refine Rn (by simp) ?_
 rw [BE]
 have ha:=Lh (fid:=105) (caps:=[]) (by kernel_rfl) rfl (Bo 40) c.args σ (fun t ht σ1 _=>Vt t σ1 (h t ht))
 obtain ⟨nm,ar⟩:=c
 simp only [CE.enc,ceA,AF,AI] at ha ⊢
 have h6:decide ((ar.length:Int)≤6)=decide (ar.length≤6):=leN _ 6
 (repeat' (first|refine Run.ct rfl ?_|(refine cO (by first|exact GV.t|exact GV.f|exact GV.st|exact GV.sf) ⟨?_,fun h=>?_,?_⟩;rotate_left;(focus ((try simp only [AL,Bool.not_not] at h);simp -implicitDefEqProofs only [AE,h6,go_sem];first|exact Is.mk|exact Is.pv (by simp -implicitDefEqProofs only [h,Y2,↓L8,↓Q0,↓L9,AE,h6,go_sem];rfl)|(refine AH.det (B8 nm _) ?_;exact Is.mk)|(refine AH.det (ha) ?_;exact Is.mk)|(refine AH.gU (by simp only [h,Y2];rfl) ?_;first|(refine AH.det (B8 nm _) ?_;exact Is.mk)|(refine AH.det (ha) ?_;exact Is.mk))));(try simp -implicitDefEqProofs only [Nh,SM,SN,↓L8,↓Q0,↓L9,AE,h6,Jw,go_sem]))|((first|refine Run.reg mixed ?_|refine Run.AJ ?_|refine Run.A9 Kx (AN.le_refl _) ?_|refine AH.det (B8 nm _) ?_|refine AH.det (ha) ?_)<;>try simp -implicitDefEqProofs only [Nh,SM,SN,↓L8,↓Q0,↓L9,AE,h6,go_sem])|fail))
 simp only [Q9]
theorem cK (d:DE) (σ:AN) (h:cD d):AQ Tryz.prog 50 [deA d] σ (fun v σ'=>v= .d (.bool (GP d))∧σ'=σ):=by
 refine Tv (by simp) ?_
 rw [BE]
 have ha:=He (fid:=51) (caps:=[]) (by kernel_rfl) rfl D1 d.vars σ (fun x _ σ1 _=>Dq x σ1)
 have hc:=Th (fid:=103) (caps:=[]) (by kernel_rfl) rfl Q9 d.cons σ (fun c hc σ1 _=>Yo c σ1 (h c hc))
 obtain ⟨nm,vs,cs⟩:=d
 simp only [DE.enc,deA,AF,AI] at ha hc ⊢
 have h6:decide ((6:Int) < (vs.length:Int))=!decide (vs.length≤6):=gtN _ 6
 have h8:decide ((8:Int) < (cs.length:Int))=!decide (cs.length≤8):=gtN _ 8
 have h1:decide ((cs.length:Int) < 1)=decide (cs.length < 1):=ltN _ 1
 (repeat' (first|refine Run.ct rfl ?_|(refine cO (by first|exact GV.t|exact GV.f|exact GV.st|exact GV.sf) ⟨?_,fun h=>?_,?_⟩;rotate_left;(focus ((try simp only [AL,Bool.not_not] at h);simp -implicitDefEqProofs only [AE,h6,h8,h1,go_sem];first|exact Is.mk|exact Is.pv (by simp -implicitDefEqProofs only [h,Y2,↓L8,↓Q0,↓L9,AE,h6,h8,h1,go_sem];rfl)|(refine AH.det (B8 nm _) ?_;exact Is.mk)|(refine AH.det (ha) ?_;exact Is.mk)|(refine AH.det (hc) ?_;exact Is.mk)|(refine AH.gU (by simp only [h,Y2];rfl) ?_;first|(refine AH.det (B8 nm _) ?_;exact Is.mk)|(refine AH.det (ha) ?_;exact Is.mk)|(refine AH.det (hc) ?_;exact Is.mk))));(try simp -implicitDefEqProofs only [Nh,SM,SN,↓L8,↓Q0,↓L9,AE,h6,h8,h1,Lx,go_sem]))|((first|refine Run.reg mixed ?_|refine Run.AJ ?_|refine Run.A9 Mk (AN.le_refl _) ?_|refine AH.det (B8 nm _) ?_|refine AH.det (ha) ?_|refine AH.det (hc) ?_)<;>try simp -implicitDefEqProofs only [Nh,SM,SN,↓L8,↓Q0,↓L9,AE,h6,h8,h1,go_sem])|(refine ⟨fun h=>?_,fun h=>?_⟩<;>first|(cases h;done)|try simp only [h])|fail))
 all_goals (refine yG ?_;simp [GP] at *;try grind)
set_option maxHeartbeats 4000000 in
theorem Q2 (p:Pg) (σ:AN) (h:∀d∈p.data,cD d):AQ Tryz.prog 19 [pgA p] σ (fun v σ'=>v= .d (.bool (CW p))∧σ'=σ):=by
 obtain ⟨ds,fs⟩:=p
 refine Xo (by simp) ?_
 rw [BE,pgA]
 simp only [Pg.enc,AF,AI] at h ⊢
 have h12:decide ((12:Int) < (ds.length:Int))=!decide (ds.length≤12):=gtN _ 12
 have h24:decide ((24:Int) < (fs.length:Int))=!decide (fs.length≤24):=gtN _ 24
 by_cases hd:ds.length≤12
 case neg=>
  (repeat' (first|refine Run.ct rfl ?_|((first|refine Run.reg mixed ?_|refine Run.AJ ?_|refine Run.A9 DJ (AN.le_refl _) ?_)<;>try simp -implicitDefEqProofs only [AE,h12,decide_eq_false hd,go_sem])|fail))
  simp [CW,hd]
 by_cases hf:fs.length≤24
 case neg=>
  (repeat' (first|refine Run.ct rfl ?_|((first|refine Run.reg mixed ?_|refine Run.AJ ?_|refine Run.A9 DJ (AN.le_refl _) ?_)<;>try simp -implicitDefEqProofs only [AE,h12,decide_eq_true hd,h24,decide_eq_false hf,go_sem])|fail))
  simp [CW,hf]
 have hres:CW ⟨ds,fs⟩=(ds.all GP&&(fs.foldlM PL 600).isSome):=by simp [CW,hd,hf]
 (repeat' (first|refine Run.ct rfl ?_|((first|refine Run.reg mixed ?_|refine Run.AJ ?_)<;>try simp -implicitDefEqProofs only [AE,h12,decide_eq_true hd,h24,decide_eq_true hf,go_sem])|fail))
 refine Run.Be ?_
 refine Run.Bn ((fun (a1:AV) (a19:AV) (a20:AV)=>fun (i:Nat)=>put 1 a1 (put 19 a19 (put 20 a20 (put 21 (.d (.int .i64 i)) U)))) _ _ _) (fun _=>B0 1 [.d (.sl (ds.map DE.enc)),.d (.sl (fs.map FE.enc))] E) (fun _=>σ) (fun i=>i≤ds.length∧(ds.take i).all GP=true) (fun i=>ds.length - i) ?_ 0 ⟨by simp,by simp⟩
 rintro i ⟨hi,hok⟩ ih
 by_cases hlt:i < ds.length
 · obtain ⟨x,hx⟩:=Bw hlt
   have he:=Bh (enc:=DE.enc) hx
   have hw1:=Ba (show i+1≤9000000000000000000 by omega)
   have hc:=cK x σ (h x (Ae hx))
   cases hp:GP x with
   |true=>
    have hs:=K3 hok hx hp
    rw [hp] at hc
    obtain ⟨nm,vs,cs⟩:=x
    simp only [DE.enc,deA,AF,AI] at he hc
    (repeat' (first|refine Run.ct rfl ?_|((first|refine Run.reg mixed ?_|refine Run.AJ ?_|refine AH.det (hc) ?_)<;>try simp -implicitDefEqProofs only [BX hlt,he,hw1,go_sem])|fail))
    exact ih (i+1) ⟨by omega,hs⟩ (by omega)
   |false=>
    have hs:=XU (p:=GP) hx hp
    rw [hp] at hc
    obtain ⟨nm,vs,cs⟩:=x
    simp only [DE.enc,deA,AF,AI] at he hc
    (repeat' (first|refine Run.ct rfl ?_|((first|refine Run.reg mixed ?_|refine Run.AJ ?_|refine Run.A9 DJ (AN.le_refl _) ?_|refine AH.det (hc) ?_)<;>try simp -implicitDefEqProofs only [BX hlt,he,hw1,go_sem])|fail))
    rw [hres,hs];rfl
 · rw [Ad (by omega)] at hok
   rw [hok,BG] at hres
   clear ih
   (repeat' (first|refine Run.ct rfl ?_|((first|refine Run.reg mixed ?_|refine Run.AJ ?_)<;>try simp -implicitDefEqProofs only [F2 hlt,go_sem])|fail))
   intro j hj
   have hle:=FI (cs:=[AV.d (.int .i64 0)]) hj
   (repeat' (first|refine Run.ct rfl ?_|((first|refine Run.reg mixed ?_|refine Run.AJ ?_)<;>try simp -implicitDefEqProofs only [AE,go_sem])|fail))
   refine Run.Be ?_
   refine Run.Bn ((fun (a5:AV) (a32:AV) (a33:AV)=>fun (y:Nat×Nat)=>put 5 a5 (put 32 a32 (put 33 a33 (put 34 (.d (.int .i64 y.1)) U)))) _ _ _) (fun _=>E) (fun y=>σ.AM j [.d (.int .i64 (MG y.2))])
    (fun y=>y.1≤fs.length∧y.2≤600∧(fs.take y.1).foldlM PL 600=some y.2) (fun y=>fs.length - y.1) ?_ (0,600) ⟨by simp,by simp,rfl⟩
   rintro ⟨i,q⟩ ⟨hi,hq,hok⟩ ih
   simp only at hi hq hok
   by_cases hlt:i < fs.length
   · obtain ⟨x,hx⟩:=Bw hlt
     have he:=Bh (enc:=FE.enc) hx
     have hw1:=Ba (show i+1≤9000000000000000000 by omega)
     have hnm:=Dq x.name (σ.AM j [.d (.int .i64 (MG q))])
     have hps:=He (fid:=51) (caps:=[]) (by kernel_rfl) rfl D1 x.params (σ.AM j [.d (.int .i64 (MG q))]) (fun x _ σ1 _=>Dq x σ1)
     have h6:decide ((6:Int) < (x.params.length:Int))=!decide (x.params.length≤6):=gtN _ 6
     have hc:=W2 j 40 q (A7 _) hq x.body (σ.AM j [.d (.int .i64 (MG q))]) (by simp only [AO,if_true])
     rw [show ((41 - 40:Nat):Int)=1 from rfl] at hc
     have hno:PL q x=none→fs.foldlM PL 600=none:=fun h=>KB hok hx h
     have hyes:∀r,PL q x=some r→(fs.take (i+1)).foldlM PL 600=some r:=fun r h=>by rw [KC hok hx,h]
     have hvf:PL q x=if D1 x.name&&decide (x.params.length≤6)&&x.params.all D1 then vEx 40 q x.body else none:=rfl
     cases h1:D1 x.name with
     |false=>
      rw [h1] at hnm hvf
      obtain ⟨nm,ps,o,n,u,ns,ks,al⟩:=x
      simp only [FE.enc,Ex.A0] at he hnm
      (repeat' (first|refine Run.ct rfl ?_|((first|refine Run.reg mixed ?_|refine Run.AJ ?_|(refine Run.A9 DJ (σ2:=σ) (FI hj) ?_)|refine AH.det (hnm) ?_)<;>try simp -implicitDefEqProofs only [BX hlt,he,go_sem])|fail))
      rw [hres,hno hvf];rfl
     |true=>
     by_cases h2:x.params.length≤6
     case neg=>
      rw [decide_eq_false h2] at h6
      rw [h1,decide_eq_false h2] at hvf
      rw [h1] at hnm
      obtain ⟨nm,ps,o,n,u,ns,ks,al⟩:=x
      simp only [FE.enc,Ex.A0] at he hnm h6
      (repeat' (first|refine Run.ct rfl ?_|((first|refine Run.reg mixed ?_|refine Run.AJ ?_|(refine Run.A9 DJ (σ2:=σ) (FI hj) ?_)|refine AH.det (hnm) ?_)<;>try simp -implicitDefEqProofs only [BX hlt,he,AE,h6,go_sem])|fail))
      rw [hres,hno hvf];rfl
     rw [decide_eq_true h2] at h6
     cases h3:x.params.all D1 with
     |false=>
      rw [h1,h3] at hvf
      rw [D5] at hvf
      rw [h1] at hnm
      rw [h3] at hps
      obtain ⟨nm,ps,o,n,u,ns,ks,al⟩:=x
      simp only [FE.enc,Ex.A0] at he hnm h6 hps
      (repeat' (first|refine Run.ct rfl ?_|((first|refine Run.reg mixed ?_|refine Run.AJ ?_|(refine Run.A9 DJ (σ2:=σ) (FI hj) ?_)|refine AH.det (hnm) ?_|refine AH.det (hps) ?_)<;>try simp -implicitDefEqProofs only [BX hlt,he,AE,h6,go_sem])|fail))
      rw [hres,hno hvf];rfl
     |true=>
     rw [h1,h3,decide_eq_true h2] at hvf
     rw [h1] at hnm
     rw [h3] at hps
     cases hv:vEx 40 q x.body with
     |some r=>
      have hr:=SX _ _ _ _ hv
      rw [hv] at hvf
      have hc:=VXQ.yes hc hv
      have hs:=hyes r hvf
      obtain ⟨nm,ps,o,n,u,ns,ks,al⟩:=x
      simp only [FE.enc,Ex.A0,exA,AF,AI] at he hnm h6 hps hc
      (repeat' (first|refine Run.ct rfl ?_|((first|refine Run.reg mixed ?_|refine Run.AJ ?_|(refine AH.mk rfl hc ?_;rintro _ _ ⟨rfl,rfl⟩)|refine AH.det (hnm) ?_|refine AH.det (hps) ?_)<;>try simp -implicitDefEqProofs only [BX hlt,he,hw1,AE,h6,go_sem])|fail))
      exact ih (i+1,r) ⟨by simp only;omega,by simp only;omega,hs⟩ (by simp only;omega)
     |none=>
      rw [hv] at hvf
      have hc:=VXQ.no hc hv
      obtain ⟨nm,ps,o,n,u,ns,ks,al⟩:=x
      simp only [FE.enc,Ex.A0,exA,AF,AI] at he hnm h6 hps hc
      (repeat' (first|refine Run.ct rfl ?_|((first|refine Run.reg mixed ?_|refine Run.AJ ?_|(refine AH.mk rfl hc ?_;rintro _ _ ⟨rfl,z,rfl⟩)|(refine Run.A9 DJ (σ2:=σ) (FI hj) ?_)|refine AH.det (hnm) ?_|refine AH.det (hps) ?_)<;>try simp -implicitDefEqProofs only [BX hlt,he,hw1,AE,h6,go_sem])|fail))
      rw [hres,hno hvf];rfl
   · rw [Ad (by omega)] at hok
     (repeat' (first|refine Run.ct rfl ?_|((first|refine Run.reg mixed ?_|refine Run.AJ ?_|(refine Run.A9 DJ (σ2:=σ) (FI hj) ?_))<;>try simp -implicitDefEqProofs only [F2 hlt,go_sem])|fail))
     rw [hres,hok];rfl
end Go.Ab
namespace Go.Ab
open Go.Proofs
theorem tS:Ar Tryz.prog 82=true:=by kernel_rfl
theorem zU:Ar Tryz.prog 84=true:=by kernel_rfl
theorem wG:Ar Tryz.prog 80=true:=by kernel_rfl
theorem tT {i:Nat} (j:Nat) {c:CE} (h:Q9 c=true):
 WX (fun σ=>σ.blk j=some [.gp i 0]) 82 ([]++[ceA c]++[.gp j 0]) i (fmtC c):=by
 intro σ0 σ s hH0 hb0 hlen
 have hjs:=hH0.1
 have hH:(fun _=>True) σ0∧σ0.gt Qq=some Sz:=⟨trivial,hH0.2⟩
 obtain ⟨n,l⟩:=c
 simp only [Q9,AL,decide_eq_true_eq,A5] at h
 have hop:=Hs (H:=fun _=>True) i (first:=[.gp i 0]) (caps:=[]) zU ⟨rfl,rfl⟩ Cv l (fun x hx=>sX i 40 x (h.2 x hx))
 refine O7 (by simp) ?_
 show Run _ _ _ (Aq [_,_]) _ _
 rw [BI]
 rw [fmtC] at hlen ⊢
 simp only [ceA,CE.enc,AF,AI] at hlen ⊢
 (repeat' (first|refine Run.ct rfl ?_|((first|refine Run.reg mixed ?_|refine Run.AJ ?_|(refine AH.mk rfl (A4 n hb0 (by (try simp only [AD,AA,AG] at hlen ⊢);omega)) ?_;rintro _ σ1 ⟨rfl,hb1⟩)|(refine AR rfl (fun h=>?_) (fun h=>?_)<;>try (cases h;done)))<;>try simp -implicitDefEqProofs only [(hb0.le.blk j _ hjs),go_sem])|(refine ⟨fun h=>?_,fun h=>?_⟩<;>first|(cases h;done)|try simp only [h])|fail))
 try simp -implicitDefEqProofs only [(hb1.le.blk j _ hjs),go_sem]
 (repeat' (first|refine Run.ct rfl ?_|((first|refine Run.reg mixed ?_|refine Run.AJ ?_|(refine AH.mk rfl (hop σ0 σ1 _ hH hb1 (by (try simp only [AD,AA,AG] at hlen ⊢);omega)) ?_;rintro _ σ2 ⟨rfl,hb2⟩)|(refine AR rfl (fun h=>?_) (fun h=>?_)<;>try (cases h;done)))<;>try simp -implicitDefEqProofs only [(hb1.le.blk j _ hjs),go_sem])|(refine ⟨fun h=>?_,fun h=>?_⟩<;>first|(cases h;done)|try simp only [h])|fail))
 try simp only [AS,AY,A6,A1] at hb2 ⊢
 exact Run.fin I4 rfl (fun _ _ h=>h) (AN.le_refl _) ⟨rfl,hb2⟩
theorem tV {i:Nat} {d:DE} (h:GP d=true):WC 42 [.gp i 0,deA d] i (Tr d):=by
 intro σ0 σ s hH hbu hlen
 obtain ⟨n,vs,cs⟩:=d
 simp only [GP,AL,decide_eq_true_eq,A5] at h
 have hvs:=Mu (H:=fun _=>True) i (first:=[.gp i 0]) (caps:=[]) wG ⟨rfl,rfl⟩ id vs (fun x _=>wH i x)
 rw [List.map_id] at hvs
 refine Qf (by simp) ?_
 rw [BI]
 rw [Tr] at hlen ⊢
 simp only [deA,DE.enc,AF,AI] at hlen ⊢
 (repeat' (first|refine Run.ct rfl ?_|((first|refine Run.reg mixed ?_|refine Run.AJ ?_|(refine AR rfl (fun h=>?_) (fun h=>?_)<;>try (cases h;done)))<;>try simp -implicitDefEqProofs only [go_sem])|(refine ⟨fun h=>?_,fun h=>?_⟩<;>first|(cases h;done)|try simp only [h])|fail))
 intro j hj
 have hun:∀s' σ',BuS (σ0.AM j [.gp i 0]) i s' σ'→BuS σ0 i s' σ':=fun s' σ' h=>hbu.lE hj h
 have hjs:(σ0.AM j [.gp i 0]).blk j=some [.gp i 0]:=by simp [AO]
 have hH:(fun _=>True) (σ0.AM j [.gp i 0])∧(σ0.AM j [.gp i 0]).gt Qq=some Sz:=⟨trivial,hH.2⟩
 have hb0:=hbu.share (cs:=[.gp i 0]) hj
 generalize σ.AM j [.gp i 0]=τ at hb0 ⊢
 generalize σ0.AM j [.gp i 0]=τ0 at hun hjs hH hb0
 have hHj:(fun σ=>σ.blk j=some [.gp i 0]) τ0∧τ0.gt Qq=some Sz:=⟨hjs,hH.2⟩
 have hsep:=OL (H:=fun σ=>σ.blk j=some [.gp i 0]) i (first:=[]) (caps:=[.gp j 0]) tS ⟨rfl,rfl⟩ [32,124,32] fmtC cs (fun x hx=>tT j (h.2 x hx))
 have ha1:=Fe (a:=[100,97,116,97,32]) (b:=n) (by simp only [AA,AD,AG] at hlen ⊢;omega)
 simp only [AY,A6] at ha1
 (repeat' (first|refine Run.ct rfl ?_|((first|refine Run.reg mixed ?_|refine Run.AJ ?_|(refine AH.mk rfl (A4 _ hb0 (by (try simp only [AD,AA,AG] at hlen ⊢);omega)) ?_;rintro _ σ1 ⟨rfl,hb1⟩)|(refine AR rfl (fun h=>?_) (fun h=>?_)<;>try (cases h;done)))<;>try simp -implicitDefEqProofs only [ha1,(hb0.le.blk j _ hjs),go_sem])|(refine ⟨fun h=>?_,fun h=>?_⟩<;>first|(cases h;done)|try simp only [h])|fail))
 try simp -implicitDefEqProofs only [(hb1.le.blk j _ hjs),go_sem]
 (repeat' (first|refine Run.ct rfl ?_|((first|refine Run.reg mixed ?_|refine Run.AJ ?_|(refine AH.mk rfl (hvs τ0 σ1 _ hH hb1 (by (try simp only [AD,AA,AG] at hlen ⊢);omega)) ?_;rintro _ σ2 ⟨rfl,hb2⟩)|(refine AR rfl (fun h=>?_) (fun h=>?_)<;>try (cases h;done)))<;>try simp -implicitDefEqProofs only [ha1,(hb1.le.blk j _ hjs),go_sem])|(refine ⟨fun h=>?_,fun h=>?_⟩<;>first|(cases h;done)|try simp only [h])|fail))
 try simp -implicitDefEqProofs only [(hb2.le.blk j _ hjs),go_sem]
 (repeat' (first|refine Run.ct rfl ?_|((first|refine Run.reg mixed ?_|refine Run.AJ ?_|(refine AH.mk rfl (A4 [32,61,32] hb2 (by (try simp only [AD,AA,AG] at hlen ⊢);omega)) ?_;rintro _ σ3 ⟨rfl,hb3⟩)|(refine AR rfl (fun h=>?_) (fun h=>?_)<;>try (cases h;done)))<;>try simp -implicitDefEqProofs only [ha1,(hb2.le.blk j _ hjs),go_sem])|(refine ⟨fun h=>?_,fun h=>?_⟩<;>first|(cases h;done)|try simp only [h])|fail))
 try simp -implicitDefEqProofs only [(hb3.le.blk j _ hjs),go_sem]
 (repeat' (first|refine Run.ct rfl ?_|((first|refine Run.reg mixed ?_|refine Run.AJ ?_|(refine AH.mk rfl (hsep τ0 σ3 _ hHj hb3 (by (try simp only [AD,AA,AG] at hlen ⊢);omega)) ?_;rintro _ σ4 ⟨rfl,hb4⟩)|(refine AR rfl (fun h=>?_) (fun h=>?_)<;>try (cases h;done)))<;>try simp -implicitDefEqProofs only [ha1,(hb3.le.blk j _ hjs),go_sem])|(refine ⟨fun h=>?_,fun h=>?_⟩<;>first|(cases h;done)|try simp only [h])|fail))
 try simp -implicitDefEqProofs only [(hb4.le.blk j _ hjs),go_sem]
 (repeat' (first|refine Run.ct rfl ?_|((first|refine Run.reg mixed ?_|refine Run.AJ ?_|(refine AH.mk rfl (A4 [59,10] hb4 (by (try simp only [AD,AA,AG] at hlen ⊢);omega)) ?_;rintro _ σ5 ⟨rfl,hb5⟩)|(refine AR rfl (fun h=>?_) (fun h=>?_)<;>try (cases h;done)))<;>try simp -implicitDefEqProofs only [ha1,(hb4.le.blk j _ hjs),go_sem])|(refine ⟨fun h=>?_,fun h=>?_⟩<;>first|(cases h;done)|try simp only [h])|fail))
 try simp only [AS,AY,A6,A1] at hb5 ⊢
 exact Run.fin Jp rfl (fun _ _ h=>h) (AN.le_refl _) ⟨rfl,hun _ _ hb5⟩
theorem aI {α:Type} {f:α→Str} {l:List α} {k:Nat} {x:α} (h:l[k]?=some x):((l.take (k+1)).map f).flatten=((l.take k).map f).flatten++f x:=by
 rw [MX h];simp
theorem Yk {α:Type} (f:α→Str) (l:List α) (k:Nat):((l.take k).map f).flatten.length≤(l.map f).flatten.length:=by
 have:((l.map f).flatten).length=((l.take k).map f).flatten.length+((l.drop k).map f).flatten.length:=by
  rw [← AA,← MC,← BU,D4]
 omega
set_option maxHeartbeats 4000000 in
theorem Vp (p:Pg) (σ:AN) (hp:σ.gt Qq=some Sz) (hs:∀d∈p.data,∀c∈d.cons,∀t∈c.args,t.size≤100000):
 AQ Tryz.prog 17 [pgA p] σ (fun v σ'=>v= .d (.str (if CW p then ZL p else []))∧σ'=σ):=by
 have hv:=Q2 p σ (fun d hd c hc t ht=>Ay (hs d hd c hc t ht) (by decide))
 refine W3 (by simp) ?_
 rw [BE]
 cases hval:CW p with
 |false=>
  rw [hval] at hv
  obtain ⟨ds,fs⟩:=p
  simp only [pgA,Pg.enc,AF,AI,AU,if_false] at hv ⊢
  (repeat' (first|refine Run.ct rfl ?_|((first|refine Run.reg mixed ?_|refine Run.AJ ?_|(refine Run.A9 LZ (σ2:=σ) (AN.le_refl _) ?_)|refine AH.det (hv) ?_|(refine AR rfl (fun h=>?_) (fun h=>?_)<;>try (cases h;done)))<;>try simp -implicitDefEqProofs only [go_sem])|(refine ⟨fun h=>?_,fun h=>?_⟩<;>first|(cases h;done)|try simp only [h])|fail))
 |true=>
 rw [hval] at hv
 have hlen:=uD hval hs
 obtain ⟨⟨hd12,hda⟩,hf24,hfa⟩:=LO hval
 obtain ⟨ds,fs⟩:=p
 simp only [pgA,Pg.enc,AF,AI,if_true] at hv hd12 hda hf24 hfa ⊢
 rw [ZL,AA] at hlen
 simp only at hlen
 (repeat' (first|refine Run.ct rfl ?_|((first|refine Run.reg mixed ?_|refine Run.AJ ?_|(refine XEx.cX rfl rfl rfl (fun i hi=>?_))|refine AH.det (hv) ?_|(refine AR rfl (fun h=>?_) (fun h=>?_)<;>try (cases h;done)))<;>try simp -implicitDefEqProofs only [AE,go_sem])|(refine ⟨fun h=>?_,fun h=>?_⟩<;>first|(cases h;done)|try simp only [h])|fail))
 have hbu0:=lY hi
 have hbk0:((σ.AM i [.FF,.AX]).Gi i (2,87)).blk i=some [.FF,.AX]:=by simp [AN.Gi,AN.AM]
 generalize (σ.AM i [AV.FF,.AX]).Gi i (2,87)=τ0 at hbu0 hbk0 ⊢
 (repeat' (first|refine Run.ct rfl ?_|((first|refine Run.reg mixed ?_|refine Run.AJ ?_|(refine AR rfl (fun h=>?_) (fun h=>?_)<;>try (cases h;done)))<;>try simp -implicitDefEqProofs only [AE,go_sem])|(refine ⟨fun h=>?_,fun h=>?_⟩<;>first|(cases h;done)|try simp only [h])|fail))
 refine Run.Be ?_
 refine Run.Bn ((fun (a1:AV) (a3:AV) (a14:AV) (a15:AV)=>fun (y:Nat×List UInt8×AN)=>put 1 a1 (put 3 a3 (put 14 a14 (put 15 a15 (put 16 (.d (.int .i64 y.1)) U))))) _ _ _ _) (fun _=>B0 1 [.d (.sl (ds.map DE.enc)),.d (.sl (fs.map FE.enc))] E) (fun y=>y.2.2)
  (fun y=>y.1≤ds.length∧BuS σ i y.2.1 y.2.2∧y.2.1=((ds.take y.1).map Tr).flatten∧(y.2.1=[]→∃p,y.2.2.blk i=some [p,.AX])) (fun y=>ds.length - y.1) ?_ (0,[],τ0) ⟨by simp,hbu0,by simp,fun _=>⟨_,hbk0⟩⟩
 rintro ⟨k,s1,τ⟩ ⟨hk,hb1,hs1,he1⟩ ih
 simp only at hk hb1 hs1 he1
 by_cases hlt:k < ds.length
 · obtain ⟨d,hd⟩:=Bw hlt
   have he:=Bh (enc:=DE.enc) hd
   have hw1:IntKind.i64.wrap ((k:Int)+1)=((k+1:Nat):Int):=by rw [Ax (by omega) (by omega)];omega
   have hdo:=tV (i:=i) (hda d (Ae hd))
   have htf:=aI (f:=Tr) hd
   have hle:=Yk Tr ds (k+1)
   have hne:Tr d≠[]:=by rw [Tr];simp
   rw [htf,← hs1,AA] at hle
   have hc:=hdo σ τ s1 ⟨trivial,hp⟩ hb1 (by omega)
   generalize Tr d=x at hc htf hne hle
   obtain ⟨n,vs,cs⟩:=d
   simp only [deA,DE.enc,AF,AI] at he hc
   (repeat' (first|refine Run.ct rfl ?_|((first|refine Run.reg mixed ?_|refine Run.AJ ?_|(refine AH.mk rfl hc ?_;rintro _ σ1 ⟨rfl,hb2⟩)|(refine AR rfl (fun h=>?_) (fun h=>?_)<;>try (cases h;done)))<;>try simp -implicitDefEqProofs only [BX hlt,he,hw1,AE,go_sem])|(refine ⟨fun h=>?_,fun h=>?_⟩<;>first|(cases h;done)|try simp only [h])|fail))
   (repeat' (first|refine Run.ct rfl ?_|((first|refine Run.reg mixed ?_|refine Run.AJ ?_|(refine AR rfl (fun h=>?_) (fun h=>?_)<;>try (cases h;done)))<;>try simp -implicitDefEqProofs only [hw1,go_sem])|(refine ⟨fun h=>?_,fun h=>?_⟩<;>first|(cases h;done)|try simp only [h])|fail))
   exact ih (k+1,_,σ1) ⟨by simp only;omega,hb2,by simp only;rw [htf,hs1],fun h=>absurd (List.append_eq_nil_iff.1 h).2 hne⟩ (by simp only;omega)
 have hke:k=ds.length:=by omega
 rw [hke,List.take_length] at hs1
 (repeat' (first|refine Run.ct rfl ?_|((first|refine Run.reg mixed ?_|refine Run.AJ ?_|(refine AR rfl (fun h=>?_) (fun h=>?_)<;>try (cases h;done)))<;>try simp -implicitDefEqProofs only [F2 hlt,AE,go_sem])|(refine ⟨fun h=>?_,fun h=>?_⟩<;>first|(cases h;done)|try simp only [h])|fail))
 refine Run.Be ?_
 refine Run.Bn ((fun (a3:AV) (a25:AV) (a26:AV)=>fun (y:Nat×List UInt8×AN)=>put 3 a3 (put 25 a25 (put 26 a26 (put 27 (.d (.int .i64 y.1)) U)))) _ _ _) (fun _=>E) (fun y=>y.2.2)
  (fun y=>y.1≤fs.length∧BuS σ i y.2.1 y.2.2∧y.2.1=(ds.map Tr).flatten++((fs.take y.1).map VW).flatten∧(y.2.1=[]→∃p,y.2.2.blk i=some [p,.AX])) (fun y=>fs.length - y.1) ?_ (0,s1,τ) ⟨by simp,hb1,by simp [hs1],he1⟩
 rintro ⟨q,s2,τ2⟩ ⟨hq,hq1,hs2,he2⟩ ih2
 simp only at hq hq1 hs2 he2
 by_cases hlt2:q < fs.length
 · obtain ⟨d,hd⟩:=Bw hlt2
   have he:=Bh (enc:=FE.enc) hd
   have hw1:IntKind.i64.wrap ((q:Int)+1)=((q+1:Nat):Int):=by rw [Ax (by omega) (by omega)];omega
   obtain ⟨hhd,hnb,hsz⟩:=hfa d (Ae hd)
   have htf:=aI (f:=VW) hd
   have hle:=Yk VW fs (q+1)
   have hne:VW d≠[]:=by rw [VW];simp
   rw [htf,AA] at hle
   have hl2:s2.length+(VW d).length≤10000000000:=by rw [hs2,AA];omega
   have hex:=aX i d.body hnb 0
   unfold EC at hex
   rw [pl,if_neg (by omega)] at hex
   rw [VW] at hl2 htf hne
   simp only [Mm,AL,decide_eq_true_eq] at hhd
   obtain ⟨n,ps,b⟩:=d
   simp only at hl2 htf hne hex hhd
   generalize BA b=tb at *
   obtain ⟨ob,nb,ub,nsb,ksb,alb⟩:=b
   simp only [exA,FE.enc,Ex.A0,AF,AI,AY,A6] at he hex
   have hlen2:=hl2
   simp only [Ij,JT,cms,AA,AD,AG] at hlen2
   have hjn:=fun σ=>jZ ps [44,32] σ (by omega) (by omega)
   have ha1:=Fe (a:=[102,117,110,32]) (b:=n) (by simp only [AA,AD,AG];omega)
   have ha2:=Fe (a:=[102,117,110,32]++n) (b:=[40]) (by simp only [AA,AD,AG];omega)
   have ha3:=Fe (a:=[102,117,110,32]++n++[40]) (b:=Lib.join ps [44,32]) (by simp only [AA,AD,AG];omega)
   have ha4:=Fe (a:=[102,117,110,32]++n++[40]++Lib.join ps [44,32]) (b:=[41,32,61,32]) (by simp only [AA,AD,AG];omega)
   simp only [AY,A6] at ha1 ha2 ha3 ha4
   (repeat' (first|refine Run.ct rfl ?_|((first|refine Run.reg mixed ?_|refine Run.AJ ?_|(refine AH.mk rfl (A4 _ hq1 (by simp only [AA,AD,AG];omega)) ?_;rintro _ σ1 ⟨rfl,hb2⟩)|refine AH.det (hjn _) ?_|(refine AR rfl (fun h=>?_) (fun h=>?_)<;>try (cases h;done)))<;>try simp -implicitDefEqProofs only [BX hlt2,he,hw1,ha1,ha2,ha3,ha4,AE,go_sem])|(refine ⟨fun h=>?_,fun h=>?_⟩<;>first|(cases h;done)|try simp only [h])|fail))
   (repeat' (first|refine Run.ct rfl ?_|((first|refine Run.reg mixed ?_|refine Run.AJ ?_|(refine AH.mk rfl (hex σ σ1 _ ⟨trivial,hp⟩ hb2 (by simp only [AA,AD,AG];omega)) ?_;rintro _ σ2 ⟨rfl,hb3⟩)|(refine AR rfl (fun h=>?_) (fun h=>?_)<;>try (cases h;done)))<;>try simp -implicitDefEqProofs only [hw1,go_sem])|(refine ⟨fun h=>?_,fun h=>?_⟩<;>first|(cases h;done)|try simp only [h])|fail))
   (repeat' (first|refine Run.ct rfl ?_|((first|refine Run.reg mixed ?_|refine Run.AJ ?_|(refine AH.mk rfl (A4 _ hb3 (by simp only [AA,AD,AG];omega)) ?_;rintro _ σ3 ⟨rfl,hb4⟩)|(refine AR rfl (fun h=>?_) (fun h=>?_)<;>try (cases h;done)))<;>try simp -implicitDefEqProofs only [hw1,go_sem])|(refine ⟨fun h=>?_,fun h=>?_⟩<;>first|(cases h;done)|try simp only [h])|fail))
   (repeat' (first|refine Run.ct rfl ?_|((first|refine Run.reg mixed ?_|refine Run.AJ ?_|(refine AR rfl (fun h=>?_) (fun h=>?_)<;>try (cases h;done)))<;>try simp -implicitDefEqProofs only [hw1,go_sem])|(refine ⟨fun h=>?_,fun h=>?_⟩<;>first|(cases h;done)|try simp only [h])|fail))
   refine ih2 (q+1,_,σ3) ⟨by simp only;omega,hb4,?_,fun h=>?_⟩ (by simp only;omega)
   · simp only
     rw [htf,hs2]
     simp [Ij,JT,cms]
   · simp at h
 have hqe:q=fs.length:=by omega
 rw [hqe,List.take_length] at hs2
 have hst:=lJ hq1 he2
 (repeat' (first|refine Run.ct rfl ?_|((first|refine Run.reg mixed ?_|refine Run.AJ ?_|(refine AH.mk rfl hst ?_;rintro _ σ1 ⟨rfl,hle1⟩)|(refine Run.A9 LZ (σ2:=σ) hle1 ?_)|(refine AR rfl (fun h=>?_) (fun h=>?_)<;>try (cases h;done)))<;>try simp -implicitDefEqProofs only [F2 hlt2,AE,go_sem])|(refine ⟨fun h=>?_,fun h=>?_⟩<;>first|(cases h;done)|try simp only [h])|fail))
 rw [hs2];rfl
end Go.Ab
