/- Valid programs. The printer: declarations, programs. Conditions: none. -/
import Derived.Test.YtifplkldbbcldaaGreatDoorXUf
set_option linter.unusedSimpArgs false
set_option linter.unusedVariables false
set_option maxRecDepth 4000
set_option maxHeartbeats 8000000
open Bool renaming eq_iff_iff→Dg,and_eq_true→AN,true_and→BH,and_false→D2,false_eq_true→AU
open Nat renaming le_refl→A7,le_trans→BD
open List renaming map_cons→AF,map_nil→AI,length_map→AB,mem_of_getElem?→Ad,take_of_length_le→A8,all_eq_true→A6,length_cons→AE,length_append→AA,length_nil→AH,append_assoc→AT,cons_append→A0,nil_append→A3,append_nil→AZ,flatten_append→MK,map_append→Bm,take_append_drop→Eh
namespace Go.Ab
open Go.Proofs
def l9 (c:CE):Prop:=∀t∈c.args,t.size≤1000000
def XH (d:DE):Prop:=∀c∈d.cons,l9 c
theorem yW {b c:Bool} (h:b=true↔c=true):AV.d (.bool b)=AV.d (.bool c):=by rw [Dg.2 h]
theorem WA (t:TE) (σ:AM) (h:t.size≤1000000):AR Tryz.prog 105 [teA t] σ (fun v σ'=>v= .d (.bool (Bl 40 t))∧σ'=σ):=by
 refine Pw (by simp) ?_
 rw [BC]
 have hc:=TP 40 (A7 _) t σ h
 rw [show ((41 - 40:Nat):Int)=1 from rfl] at hc
 obtain ⟨k,n,l⟩:=t
 simp only [TE.A1,teA,AF,AI] at hc ⊢
 (repeat' (first|refine Run.ct rfl ?_|((first|refine Run.reg mixed ?_|refine Run.AJ ?_|refine Run.Aa JN (AM.le_refl _) ?_|refine AG.det (hc) ?_)<;>try simp -implicitDefEqProofs only [go_sem])|fail))
theorem ZH (c:CE) (σ:AM) (h:l9 c):AR Tryz.prog 103 [ceA c] σ (fun v σ'=>v= .d (.bool (Rb c))∧σ'=σ):=by
 refine Ry (by simp) ?_
 rw [BC]
 have ha:=Lp (fid:=105) (caps:=[]) (by kernel_rfl) rfl (Bl 40) c.args σ (fun t ht σ1 _=>WA t σ1 (h t ht))
 obtain ⟨nm,ar⟩:=c
 simp only [CE.enc,ceA,AF,AI] at ha ⊢
 have h6:decide ((ar.length:Int)≤6)=decide (ar.length≤6):=leN _ 6
 (repeat' (first|refine Run.ct rfl ?_|(refine dN (by first|exact GV.t|exact GV.f|exact GV.st|exact GV.sf) ⟨?_,fun h=>?_,?_⟩;rotate_left;(focus ((try simp only [AN,Bool.not_not] at h);simp -implicitDefEqProofs only [AB,h6,go_sem];first|exact Is.mk|exact Is.pv (by simp -implicitDefEqProofs only [h,Yk,↓Lf,↓Q9,↓Lg,AB,h6,go_sem];rfl)|(refine AG.det (Bb nm _) ?_;exact Is.mk)|(refine AG.det (ha) ?_;exact Is.mk)|(refine AG.iO (by simp only [h,Yk];rfl) ?_;first|(refine AG.det (Bb nm _) ?_;exact Is.mk)|(refine AG.det (ha) ?_;exact Is.mk))));(try simp -implicitDefEqProofs only [Nr,SZ,S0,↓Lf,↓Q9,↓Lg,AB,h6,Jx,go_sem]))|((first|refine Run.reg mixed ?_|refine Run.AJ ?_|refine Run.Aa LB (AM.le_refl _) ?_|refine AG.det (Bb nm _) ?_|refine AG.det (ha) ?_)<;>try simp -implicitDefEqProofs only [Nr,SZ,S0,↓Lf,↓Q9,↓Lg,AB,h6,go_sem])|fail))
 simp only [Rb]
theorem dJ (d:DE) (σ:AM) (h:XH d):AR Tryz.prog 50 [deA d] σ (fun v σ'=>v= .d (.bool (Ge d))∧σ'=σ):=by
 refine UF (by simp) ?_
 rw [BC]
 have ha:=Hf (fid:=51) (caps:=[]) (by kernel_rfl) rfl DY d.vars σ (fun x _ σ1 _=>Dl x σ1)
 have hc:=Tq (fid:=103) (caps:=[]) (by kernel_rfl) rfl Rb d.cons σ (fun c hc σ1 _=>ZH c σ1 (h c hc))
 obtain ⟨nm,vs,cs⟩:=d
 simp only [DE.enc,deA,AF,AI] at ha hc ⊢
 have h6:decide ((6:Int) < (vs.length:Int))=!decide (vs.length≤6):=gtN _ 6
 have h8:decide ((8:Int) < (cs.length:Int))=!decide (cs.length≤8):=gtN _ 8
 have h1:decide ((cs.length:Int) < 1)=decide (cs.length < 1):=ltN _ 1
 (repeat' (first|refine Run.ct rfl ?_|(refine dN (by first|exact GV.t|exact GV.f|exact GV.st|exact GV.sf) ⟨?_,fun h=>?_,?_⟩;rotate_left;(focus ((try simp only [AN,Bool.not_not] at h);simp -implicitDefEqProofs only [AB,h6,h8,h1,go_sem];first|exact Is.mk|exact Is.pv (by simp -implicitDefEqProofs only [h,Yk,↓Lf,↓Q9,↓Lg,AB,h6,h8,h1,go_sem];rfl)|(refine AG.det (Bb nm _) ?_;exact Is.mk)|(refine AG.det (ha) ?_;exact Is.mk)|(refine AG.det (hc) ?_;exact Is.mk)|(refine AG.iO (by simp only [h,Yk];rfl) ?_;first|(refine AG.det (Bb nm _) ?_;exact Is.mk)|(refine AG.det (ha) ?_;exact Is.mk)|(refine AG.det (hc) ?_;exact Is.mk))));(try simp -implicitDefEqProofs only [Nr,SZ,S0,↓Lf,↓Q9,↓Lg,AB,h6,h8,h1,MG,go_sem]))|((first|refine Run.reg mixed ?_|refine Run.AJ ?_|refine Run.Aa Mu (AM.le_refl _) ?_|refine AG.det (Bb nm _) ?_|refine AG.det (ha) ?_|refine AG.det (hc) ?_)<;>try simp -implicitDefEqProofs only [Nr,SZ,S0,↓Lf,↓Q9,↓Lg,AB,h6,h8,h1,go_sem])|(refine ⟨fun h=>?_,fun h=>?_⟩<;>first|(cases h;done)|try simp only [h])|fail))
 all_goals (refine yW ?_;simp [Ge] at *;try grind)
set_option maxHeartbeats 4000000 in
theorem Qb (p:Pg) (σ:AM) (h:∀d∈p.data,XH d):AR Tryz.prog 19 [pgA p] σ (fun v σ'=>v= .d (.bool (DA p))∧σ'=σ):=by
 obtain ⟨ds,fs⟩:=p
 refine YC (by simp) ?_
 rw [BC,pgA]
 simp only [Pg.enc,AF,AI] at h ⊢
 have h12:decide ((12:Int) < (ds.length:Int))=!decide (ds.length≤12):=gtN _ 12
 have h24:decide ((24:Int) < (fs.length:Int))=!decide (fs.length≤24):=gtN _ 24
 by_cases hd:ds.length≤12
 case neg=>
  (repeat' (first|refine Run.ct rfl ?_|((first|refine Run.reg mixed ?_|refine Run.AJ ?_|refine Run.Aa DG (AM.le_refl _) ?_)<;>try simp -implicitDefEqProofs only [AB,h12,decide_eq_false hd,go_sem])|fail))
  simp [DA,hd]
 by_cases hf:fs.length≤24
 case neg=>
  (repeat' (first|refine Run.ct rfl ?_|((first|refine Run.reg mixed ?_|refine Run.AJ ?_|refine Run.Aa DG (AM.le_refl _) ?_)<;>try simp -implicitDefEqProofs only [AB,h12,decide_eq_true hd,h24,decide_eq_false hf,go_sem])|fail))
  simp [DA,hf]
 have hres:DA ⟨ds,fs⟩=(ds.all Ge&&(fs.foldlM PX 600).isSome):=by simp [DA,hd,hf]
 (repeat' (first|refine Run.ct rfl ?_|((first|refine Run.reg mixed ?_|refine Run.AJ ?_)<;>try simp -implicitDefEqProofs only [AB,h12,decide_eq_true hd,h24,decide_eq_true hf,go_sem])|fail))
 refine Run.B1 ?_
 refine Run.B7 ((fun (a1:AV) (a19:AV) (a20:AV)=>fun (i:Nat)=>put 1 a1 (put 19 a19 (put 20 a20 (put 21 (.d (.int .i64 i)) U)))) _ _ _) (fun _=>BW 1 [.d (.sl (ds.map DE.enc)),.d (.sl (fs.map FE.enc))] E) (fun _=>σ) (fun i=>i≤ds.length∧(ds.take i).all Ge=true) (fun i=>ds.length - i) ?_ 0 ⟨by simp,by simp⟩
 rintro i ⟨hi,hok⟩ ih
 by_cases hlt:i < ds.length
 · obtain ⟨x,hx⟩:=Ba hlt
   have he:=BX (enc:=DE.enc) hx
   have hw1:=BQ (show i+1≤9000000000000000000 by omega)
   have hc:=dJ x σ (h x (Ad hx))
   cases hp:Ge x with
   |true=>
    have hs:=K7 hok hx hp
    rw [hp] at hc
    obtain ⟨nm,vs,cs⟩:=x
    simp only [DE.enc,deA,AF,AI] at he hc
    (repeat' (first|refine Run.ct rfl ?_|((first|refine Run.reg mixed ?_|refine Run.AJ ?_|refine AG.det (hc) ?_)<;>try simp -implicitDefEqProofs only [BG hlt,he,hw1,go_sem])|fail))
    exact ih (i+1) ⟨by omega,hs⟩ (by omega)
   |false=>
    have hs:=X4 (p:=Ge) hx hp
    rw [hp] at hc
    obtain ⟨nm,vs,cs⟩:=x
    simp only [DE.enc,deA,AF,AI] at he hc
    (repeat' (first|refine Run.ct rfl ?_|((first|refine Run.reg mixed ?_|refine Run.AJ ?_|refine Run.Aa DG (AM.le_refl _) ?_|refine AG.det (hc) ?_)<;>try simp -implicitDefEqProofs only [BG hlt,he,hw1,go_sem])|fail))
    rw [hres,hs];rfl
 · rw [A8 (by omega)] at hok
   rw [hok,BH] at hres
   clear ih
   (repeat' (first|refine Run.ct rfl ?_|((first|refine Run.reg mixed ?_|refine Run.AJ ?_)<;>try simp -implicitDefEqProofs only [E0 hlt,go_sem])|fail))
   intro j hj
   have hle:=FG (cs:=[AV.d (.int .i64 0)]) hj
   (repeat' (first|refine Run.ct rfl ?_|((first|refine Run.reg mixed ?_|refine Run.AJ ?_)<;>try simp -implicitDefEqProofs only [AB,go_sem])|fail))
   refine Run.B1 ?_
   refine Run.B7 ((fun (a5:AV) (a32:AV) (a33:AV)=>fun (y:Nat×Nat)=>put 5 a5 (put 32 a32 (put 33 a33 (put 34 (.d (.int .i64 y.1)) U)))) _ _ _) (fun _=>E) (fun y=>σ.AL j [.d (.int .i64 (MO y.2))])
    (fun y=>y.1≤fs.length∧y.2≤600∧(fs.take y.1).foldlM PX 600=some y.2) (fun y=>fs.length - y.1) ?_ (0,600) ⟨by simp,by simp,rfl⟩
   rintro ⟨i,q⟩ ⟨hi,hq,hok⟩ ih
   simp only at hi hq hok
   by_cases hlt:i < fs.length
   · obtain ⟨x,hx⟩:=Ba hlt
     have he:=BX (enc:=FE.enc) hx
     have hw1:=BQ (show i+1≤9000000000000000000 by omega)
     have hnm:=Dl x.name (σ.AL j [.d (.int .i64 (MO q))])
     have hps:=Hf (fid:=51) (caps:=[]) (by kernel_rfl) rfl DY x.params (σ.AL j [.d (.int .i64 (MO q))]) (fun x _ σ1 _=>Dl x σ1)
     have h6:decide ((6:Int) < (x.params.length:Int))=!decide (x.params.length≤6):=gtN _ 6
     have hc:=W9 j 40 q (A7 _) hq x.body (σ.AL j [.d (.int .i64 (MO q))]) (by simp only [AO,if_true])
     rw [show ((41 - 40:Nat):Int)=1 from rfl] at hc
     have hno:PX q x=none→fs.foldlM PX 600=none:=fun h=>KC hok hx h
     have hyes:∀r,PX q x=some r→(fs.take (i+1)).foldlM PX 600=some r:=fun r h=>by rw [KD hok hx,h]
     have hvf:PX q x=if DY x.name&&decide (x.params.length≤6)&&x.params.all DY then vEx 40 q x.body else none:=rfl
     cases h1:DY x.name with
     |false=>
      rw [h1] at hnm hvf
      obtain ⟨nm,ps,o,n,u,ns,ks,al⟩:=x
      simp only [FE.enc,Ex.A1] at he hnm
      (repeat' (first|refine Run.ct rfl ?_|((first|refine Run.reg mixed ?_|refine Run.AJ ?_|(refine Run.Aa DG (σ2:=σ) (FG hj) ?_)|refine AG.det (hnm) ?_)<;>try simp -implicitDefEqProofs only [BG hlt,he,go_sem])|fail))
      rw [hres,hno hvf];rfl
     |true=>
     by_cases h2:x.params.length≤6
     case neg=>
      rw [decide_eq_false h2] at h6
      rw [h1,decide_eq_false h2] at hvf
      rw [h1] at hnm
      obtain ⟨nm,ps,o,n,u,ns,ks,al⟩:=x
      simp only [FE.enc,Ex.A1] at he hnm h6
      (repeat' (first|refine Run.ct rfl ?_|((first|refine Run.reg mixed ?_|refine Run.AJ ?_|(refine Run.Aa DG (σ2:=σ) (FG hj) ?_)|refine AG.det (hnm) ?_)<;>try simp -implicitDefEqProofs only [BG hlt,he,AB,h6,go_sem])|fail))
      rw [hres,hno hvf];rfl
     rw [decide_eq_true h2] at h6
     cases h3:x.params.all DY with
     |false=>
      rw [h1,h3] at hvf
      rw [D2] at hvf
      rw [h1] at hnm
      rw [h3] at hps
      obtain ⟨nm,ps,o,n,u,ns,ks,al⟩:=x
      simp only [FE.enc,Ex.A1] at he hnm h6 hps
      (repeat' (first|refine Run.ct rfl ?_|((first|refine Run.reg mixed ?_|refine Run.AJ ?_|(refine Run.Aa DG (σ2:=σ) (FG hj) ?_)|refine AG.det (hnm) ?_|refine AG.det (hps) ?_)<;>try simp -implicitDefEqProofs only [BG hlt,he,AB,h6,go_sem])|fail))
      rw [hres,hno hvf];rfl
     |true=>
     rw [h1,h3,decide_eq_true h2] at hvf
     rw [h1] at hnm
     rw [h3] at hps
     cases hv:vEx 40 q x.body with
     |some r=>
      have hr:=S8 _ _ _ _ hv
      rw [hv] at hvf
      have hc:=VXQ.yes hc hv
      have hs:=hyes r hvf
      obtain ⟨nm,ps,o,n,u,ns,ks,al⟩:=x
      simp only [FE.enc,Ex.A1,exA,AF,AI] at he hnm h6 hps hc
      (repeat' (first|refine Run.ct rfl ?_|((first|refine Run.reg mixed ?_|refine Run.AJ ?_|(refine AG.mk rfl hc ?_;rintro _ _ ⟨rfl,rfl⟩)|refine AG.det (hnm) ?_|refine AG.det (hps) ?_)<;>try simp -implicitDefEqProofs only [BG hlt,he,hw1,AB,h6,go_sem])|fail))
      exact ih (i+1,r) ⟨by simp only;omega,by simp only;omega,hs⟩ (by simp only;omega)
     |none=>
      rw [hv] at hvf
      have hc:=VXQ.no hc hv
      obtain ⟨nm,ps,o,n,u,ns,ks,al⟩:=x
      simp only [FE.enc,Ex.A1,exA,AF,AI] at he hnm h6 hps hc
      (repeat' (first|refine Run.ct rfl ?_|((first|refine Run.reg mixed ?_|refine Run.AJ ?_|(refine AG.mk rfl hc ?_;rintro _ _ ⟨rfl,z,rfl⟩)|(refine Run.Aa DG (σ2:=σ) (FG hj) ?_)|refine AG.det (hnm) ?_|refine AG.det (hps) ?_)<;>try simp -implicitDefEqProofs only [BG hlt,he,hw1,AB,h6,go_sem])|fail))
      rw [hres,hno hvf];rfl
   · rw [A8 (by omega)] at hok
     (repeat' (first|refine Run.ct rfl ?_|((first|refine Run.reg mixed ?_|refine Run.AJ ?_|(refine Run.Aa DG (σ2:=σ) (FG hj) ?_))<;>try simp -implicitDefEqProofs only [E0 hlt,go_sem])|fail))
     rw [hres,hok];rfl
end Go.Ab
namespace Go.Ab
open Go.Proofs
theorem uM:Ap Tryz.prog 82=true:=by kernel_rfl
theorem AAL:Ap Tryz.prog 84=true:=by kernel_rfl
theorem wX:Ap Tryz.prog 80=true:=by kernel_rfl
theorem uN {i:Nat} (j:Nat) {c:CE} (h:Rb c=true):
 WX (fun σ=>σ.blk j=some [.gp i 0]) 82 ([]++[ceA c]++[.gp j 0]) i (fmtC c):=by
 intro σ0 σ s hH0 hb0 hlen
 have hjs:=hH0.1
 have hH:(fun _=>True) σ0∧σ0.gt SM=some UO:=⟨trivial,hH0.2⟩
 obtain ⟨n,l⟩:=c
 simp only [Rb,AN,decide_eq_true_eq,A6] at h
 have hop:=Ht (H:=fun _=>True) i (first:=[.gp i 0]) (caps:=[]) AAL ⟨rfl,rfl⟩ Cr l (fun x hx=>tQ i 40 x (h.2 x hx))
 refine Oh (by simp) ?_
 show Run _ _ _ (An [_,_]) _ _
 rw [BF]
 rw [fmtC] at hlen ⊢
 simp only [ceA,CE.enc,AF,AI] at hlen ⊢
 (repeat' (first|refine Run.ct rfl ?_|((first|refine Run.reg mixed ?_|refine Run.AJ ?_|(refine AG.mk rfl (A5 n hb0 (by (try simp only [AE,AA,AH] at hlen ⊢);omega)) ?_;rintro _ σ1 ⟨rfl,hb1⟩)|(refine AP rfl (fun h=>?_) (fun h=>?_)<;>try (cases h;done)))<;>try simp -implicitDefEqProofs only [(hb0.le.blk j _ hjs),go_sem])|(refine ⟨fun h=>?_,fun h=>?_⟩<;>first|(cases h;done)|try simp only [h])|fail))
 try simp -implicitDefEqProofs only [(hb1.le.blk j _ hjs),go_sem]
 (repeat' (first|refine Run.ct rfl ?_|((first|refine Run.reg mixed ?_|refine Run.AJ ?_|(refine AG.mk rfl (hop σ0 σ1 _ hH hb1 (by (try simp only [AE,AA,AH] at hlen ⊢);omega)) ?_;rintro _ σ2 ⟨rfl,hb2⟩)|(refine AP rfl (fun h=>?_) (fun h=>?_)<;>try (cases h;done)))<;>try simp -implicitDefEqProofs only [(hb1.le.blk j _ hjs),go_sem])|(refine ⟨fun h=>?_,fun h=>?_⟩<;>first|(cases h;done)|try simp only [h])|fail))
 try simp only [AT,A0,A3,AZ] at hb2 ⊢
 exact Run.fin I6 rfl (fun _ _ h=>h) (AM.le_refl _) ⟨rfl,hb2⟩
theorem uP {i:Nat} {d:DE} (h:Ge d=true):WC 42 [.gp i 0,deA d] i (UB d):=by
 intro σ0 σ s hH hbu hlen
 obtain ⟨n,vs,cs⟩:=d
 simp only [Ge,AN,decide_eq_true_eq,A6] at h
 have hvs:=NG (H:=fun _=>True) i (first:=[.gp i 0]) (caps:=[]) wX ⟨rfl,rfl⟩ id vs (fun x _=>wY i x)
 rw [List.map_id] at hvs
 refine Qp (by simp) ?_
 rw [BF]
 rw [UB] at hlen ⊢
 simp only [deA,DE.enc,AF,AI] at hlen ⊢
 (repeat' (first|refine Run.ct rfl ?_|((first|refine Run.reg mixed ?_|refine Run.AJ ?_|(refine AP rfl (fun h=>?_) (fun h=>?_)<;>try (cases h;done)))<;>try simp -implicitDefEqProofs only [go_sem])|(refine ⟨fun h=>?_,fun h=>?_⟩<;>first|(cases h;done)|try simp only [h])|fail))
 intro j hj
 have hun:∀s' σ',BuS (σ0.AL j [.gp i 0]) i s' σ'→BuS σ0 i s' σ':=fun s' σ' h=>hbu.mD hj h
 have hjs:(σ0.AL j [.gp i 0]).blk j=some [.gp i 0]:=by simp [AO]
 have hH:(fun _=>True) (σ0.AL j [.gp i 0])∧(σ0.AL j [.gp i 0]).gt SM=some UO:=⟨trivial,hH.2⟩
 have hb0:=hbu.share (cs:=[.gp i 0]) hj
 generalize σ.AL j [.gp i 0]=τ at hb0 ⊢
 generalize σ0.AL j [.gp i 0]=τ0 at hun hjs hH hb0
 have hHj:(fun σ=>σ.blk j=some [.gp i 0]) τ0∧τ0.gt SM=some UO:=⟨hjs,hH.2⟩
 have hsep:=OU (H:=fun σ=>σ.blk j=some [.gp i 0]) i (first:=[]) (caps:=[.gp j 0]) uM ⟨rfl,rfl⟩ [32,124,32] fmtC cs (fun x hx=>uN j (h.2 x hx))
 have ha1:=HN (a:=[100,97,116,97,32]) (b:=n) (by simp only [AA,AE,AH] at hlen ⊢;omega)
 simp only [A0,A3] at ha1
 (repeat' (first|refine Run.ct rfl ?_|((first|refine Run.reg mixed ?_|refine Run.AJ ?_|(refine AG.mk rfl (A5 _ hb0 (by (try simp only [AE,AA,AH] at hlen ⊢);omega)) ?_;rintro _ σ1 ⟨rfl,hb1⟩)|(refine AP rfl (fun h=>?_) (fun h=>?_)<;>try (cases h;done)))<;>try simp -implicitDefEqProofs only [ha1,(hb0.le.blk j _ hjs),go_sem])|(refine ⟨fun h=>?_,fun h=>?_⟩<;>first|(cases h;done)|try simp only [h])|fail))
 try simp -implicitDefEqProofs only [(hb1.le.blk j _ hjs),go_sem]
 (repeat' (first|refine Run.ct rfl ?_|((first|refine Run.reg mixed ?_|refine Run.AJ ?_|(refine AG.mk rfl (hvs τ0 σ1 _ hH hb1 (by (try simp only [AE,AA,AH] at hlen ⊢);omega)) ?_;rintro _ σ2 ⟨rfl,hb2⟩)|(refine AP rfl (fun h=>?_) (fun h=>?_)<;>try (cases h;done)))<;>try simp -implicitDefEqProofs only [ha1,(hb1.le.blk j _ hjs),go_sem])|(refine ⟨fun h=>?_,fun h=>?_⟩<;>first|(cases h;done)|try simp only [h])|fail))
 try simp -implicitDefEqProofs only [(hb2.le.blk j _ hjs),go_sem]
 (repeat' (first|refine Run.ct rfl ?_|((first|refine Run.reg mixed ?_|refine Run.AJ ?_|(refine AG.mk rfl (A5 [32,61,32] hb2 (by (try simp only [AE,AA,AH] at hlen ⊢);omega)) ?_;rintro _ σ3 ⟨rfl,hb3⟩)|(refine AP rfl (fun h=>?_) (fun h=>?_)<;>try (cases h;done)))<;>try simp -implicitDefEqProofs only [ha1,(hb2.le.blk j _ hjs),go_sem])|(refine ⟨fun h=>?_,fun h=>?_⟩<;>first|(cases h;done)|try simp only [h])|fail))
 try simp -implicitDefEqProofs only [(hb3.le.blk j _ hjs),go_sem]
 (repeat' (first|refine Run.ct rfl ?_|((first|refine Run.reg mixed ?_|refine Run.AJ ?_|(refine AG.mk rfl (hsep τ0 σ3 _ hHj hb3 (by (try simp only [AE,AA,AH] at hlen ⊢);omega)) ?_;rintro _ σ4 ⟨rfl,hb4⟩)|(refine AP rfl (fun h=>?_) (fun h=>?_)<;>try (cases h;done)))<;>try simp -implicitDefEqProofs only [ha1,(hb3.le.blk j _ hjs),go_sem])|(refine ⟨fun h=>?_,fun h=>?_⟩<;>first|(cases h;done)|try simp only [h])|fail))
 try simp -implicitDefEqProofs only [(hb4.le.blk j _ hjs),go_sem]
 (repeat' (first|refine Run.ct rfl ?_|((first|refine Run.reg mixed ?_|refine Run.AJ ?_|(refine AG.mk rfl (A5 [59,10] hb4 (by (try simp only [AE,AA,AH] at hlen ⊢);omega)) ?_;rintro _ σ5 ⟨rfl,hb5⟩)|(refine AP rfl (fun h=>?_) (fun h=>?_)<;>try (cases h;done)))<;>try simp -implicitDefEqProofs only [ha1,(hb4.le.blk j _ hjs),go_sem])|(refine ⟨fun h=>?_,fun h=>?_⟩<;>first|(cases h;done)|try simp only [h])|fail))
 try simp only [AT,A0,A3,AZ] at hb5 ⊢
 exact Run.fin Jq rfl (fun _ _ h=>h) (AM.le_refl _) ⟨rfl,hun _ _ hb5⟩
theorem bB {α:Type} {f:α→Str} {l:List α} {k:Nat} {x:α} (h:l[k]?=some x):((l.take (k+1)).map f).flatten=((l.take k).map f).flatten++f x:=by
 rw [Ff h];simp
theorem ZE {α:Type} (f:α→Str) (l:List α) (k:Nat):((l.take k).map f).flatten.length≤(l.map f).flatten.length:=by
 have:((l.map f).flatten).length=((l.take k).map f).flatten.length+((l.drop k).map f).flatten.length:=by
  rw [← AA,← MK,← Bm,Eh]
 omega
set_option maxHeartbeats 4000000 in
theorem PV (p:Pg) (σ:AM) (hp:σ.gt SM=some UO) (hs:∀d∈p.data,∀c∈d.cons,∀t∈c.args,t.size≤100000):
 AR Tryz.prog 17 [pgA p] σ (fun v σ'=>v= .d (.str (if DA p then Wa p else []))∧σ'=σ):=by
 have hv:=Qb p σ (fun d hd c hc t ht=>BD (hs d hd c hc t ht) (by decide))
 refine Wb (by simp) ?_
 rw [BC]
 cases hval:DA p with
 |false=>
  rw [hval] at hv
  obtain ⟨ds,fs⟩:=p
  simp only [pgA,Pg.enc,AF,AI,AU,if_false] at hv ⊢
  (repeat' (first|refine Run.ct rfl ?_|((first|refine Run.reg mixed ?_|refine Run.AJ ?_|(refine Run.Aa L7 (σ2:=σ) (AM.le_refl _) ?_)|refine AG.det (hv) ?_|(refine AP rfl (fun h=>?_) (fun h=>?_)<;>try (cases h;done)))<;>try simp -implicitDefEqProofs only [go_sem])|(refine ⟨fun h=>?_,fun h=>?_⟩<;>first|(cases h;done)|try simp only [h])|fail))
 |true=>
 rw [hval] at hv
 have hlen:=uX hval hs
 obtain ⟨⟨hd12,hda⟩,hf24,hfa⟩:=W1 hval
 obtain ⟨ds,fs⟩:=p
 simp only [pgA,Pg.enc,AF,AI,if_true] at hv hd12 hda hf24 hfa ⊢
 rw [Wa,AA] at hlen
 simp only at hlen
 (repeat' (first|refine Run.ct rfl ?_|((first|refine Run.reg mixed ?_|refine Run.AJ ?_|(refine XEx.dV rfl rfl rfl (fun i hi=>?_))|refine AG.det (hv) ?_|(refine AP rfl (fun h=>?_) (fun h=>?_)<;>try (cases h;done)))<;>try simp -implicitDefEqProofs only [AB,go_sem])|(refine ⟨fun h=>?_,fun h=>?_⟩<;>first|(cases h;done)|try simp only [h])|fail))
 have hbu0:=mW hi
 have hbk0:((σ.AL i [.FD,.AX]).GX i (2,87)).blk i=some [.FD,.AX]:=by simp [AM.GX,AM.AL]
 generalize (σ.AL i [AV.FD,.AX]).GX i (2,87)=τ0 at hbu0 hbk0 ⊢
 (repeat' (first|refine Run.ct rfl ?_|((first|refine Run.reg mixed ?_|refine Run.AJ ?_|(refine AP rfl (fun h=>?_) (fun h=>?_)<;>try (cases h;done)))<;>try simp -implicitDefEqProofs only [AB,go_sem])|(refine ⟨fun h=>?_,fun h=>?_⟩<;>first|(cases h;done)|try simp only [h])|fail))
 refine Run.B1 ?_
 refine Run.B7 ((fun (a1:AV) (a3:AV) (a14:AV) (a15:AV)=>fun (y:Nat×List UInt8×AM)=>put 1 a1 (put 3 a3 (put 14 a14 (put 15 a15 (put 16 (.d (.int .i64 y.1)) U))))) _ _ _ _) (fun _=>BW 1 [.d (.sl (ds.map DE.enc)),.d (.sl (fs.map FE.enc))] E) (fun y=>y.2.2)
  (fun y=>y.1≤ds.length∧BuS σ i y.2.1 y.2.2∧y.2.1=((ds.take y.1).map UB).flatten∧(y.2.1=[]→∃p,y.2.2.blk i=some [p,.AX])) (fun y=>ds.length - y.1) ?_ (0,[],τ0) ⟨by simp,hbu0,by simp,fun _=>⟨_,hbk0⟩⟩
 rintro ⟨k,s1,τ⟩ ⟨hk,hb1,hs1,he1⟩ ih
 simp only at hk hb1 hs1 he1
 by_cases hlt:k < ds.length
 · obtain ⟨d,hd⟩:=Ba hlt
   have he:=BX (enc:=DE.enc) hd
   have hw1:IntKind.i64.wrap ((k:Int)+1)=((k+1:Nat):Int):=by rw [Aw (by omega) (by omega)];omega
   have hdo:=uP (i:=i) (hda d (Ad hd))
   have htf:=bB (f:=UB) hd
   have hle:=ZE UB ds (k+1)
   have hne:UB d≠[]:=by rw [UB];simp
   rw [htf,← hs1,AA] at hle
   have hc:=hdo σ τ s1 ⟨trivial,hp⟩ hb1 (by omega)
   generalize UB d=x at hc htf hne hle
   obtain ⟨n,vs,cs⟩:=d
   simp only [deA,DE.enc,AF,AI] at he hc
   (repeat' (first|refine Run.ct rfl ?_|((first|refine Run.reg mixed ?_|refine Run.AJ ?_|(refine AG.mk rfl hc ?_;rintro _ σ1 ⟨rfl,hb2⟩)|(refine AP rfl (fun h=>?_) (fun h=>?_)<;>try (cases h;done)))<;>try simp -implicitDefEqProofs only [BG hlt,he,hw1,AB,go_sem])|(refine ⟨fun h=>?_,fun h=>?_⟩<;>first|(cases h;done)|try simp only [h])|fail))
   (repeat' (first|refine Run.ct rfl ?_|((first|refine Run.reg mixed ?_|refine Run.AJ ?_|(refine AP rfl (fun h=>?_) (fun h=>?_)<;>try (cases h;done)))<;>try simp -implicitDefEqProofs only [hw1,go_sem])|(refine ⟨fun h=>?_,fun h=>?_⟩<;>first|(cases h;done)|try simp only [h])|fail))
   exact ih (k+1,_,σ1) ⟨by simp only;omega,hb2,by simp only;rw [htf,hs1],fun h=>absurd (List.append_eq_nil_iff.1 h).2 hne⟩ (by simp only;omega)
 have hke:k=ds.length:=by omega
 rw [hke,List.take_length] at hs1
 (repeat' (first|refine Run.ct rfl ?_|((first|refine Run.reg mixed ?_|refine Run.AJ ?_|(refine AP rfl (fun h=>?_) (fun h=>?_)<;>try (cases h;done)))<;>try simp -implicitDefEqProofs only [E0 hlt,AB,go_sem])|(refine ⟨fun h=>?_,fun h=>?_⟩<;>first|(cases h;done)|try simp only [h])|fail))
 refine Run.B1 ?_
 refine Run.B7 ((fun (a3:AV) (a25:AV) (a26:AV)=>fun (y:Nat×List UInt8×AM)=>put 3 a3 (put 25 a25 (put 26 a26 (put 27 (.d (.int .i64 y.1)) U)))) _ _ _) (fun _=>E) (fun y=>y.2.2)
  (fun y=>y.1≤fs.length∧BuS σ i y.2.1 y.2.2∧y.2.1=(ds.map UB).flatten++((fs.take y.1).map V5).flatten∧(y.2.1=[]→∃p,y.2.2.blk i=some [p,.AX])) (fun y=>fs.length - y.1) ?_ (0,s1,τ) ⟨by simp,hb1,by simp [hs1],he1⟩
 rintro ⟨q,s2,τ2⟩ ⟨hq,hq1,hs2,he2⟩ ih2
 simp only at hq hq1 hs2 he2
 by_cases hlt2:q < fs.length
 · obtain ⟨d,hd⟩:=Ba hlt2
   have he:=BX (enc:=FE.enc) hd
   have hw1:IntKind.i64.wrap ((q:Int)+1)=((q+1:Nat):Int):=by rw [Aw (by omega) (by omega)];omega
   obtain ⟨hhd,hnb,hsz⟩:=hfa d (Ad hd)
   have htf:=bB (f:=V5) hd
   have hle:=ZE V5 fs (q+1)
   have hne:V5 d≠[]:=by rw [V5];simp
   rw [htf,AA] at hle
   have hl2:s2.length+(V5 d).length≤10000000000:=by rw [hs2,AA];omega
   have hex:=bP i d.body hnb 0
   unfold EC at hex
   rw [pl,if_neg (by omega)] at hex
   rw [V5] at hl2 htf hne
   simp only [Mw,AN,decide_eq_true_eq] at hhd
   obtain ⟨n,ps,b⟩:=d
   simp only at hl2 htf hne hex hhd
   generalize Az b=tb at *
   obtain ⟨ob,nb,ub,nsb,ksb,alb⟩:=b
   simp only [exA,FE.enc,Ex.A1,AF,AI,A0,A3] at he hex
   have hlen2:=hl2
   simp only [Il,JT,cms,AA,AE,AH] at hlen2
   have hjn:=fun σ=>kR ps [44,32] σ (by omega) (by omega)
   have ha1:=HN (a:=[102,117,110,32]) (b:=n) (by simp only [AA,AE,AH];omega)
   have ha2:=HN (a:=[102,117,110,32]++n) (b:=[40]) (by simp only [AA,AE,AH];omega)
   have ha3:=HN (a:=[102,117,110,32]++n++[40]) (b:=Lib.join ps [44,32]) (by simp only [AA,AE,AH];omega)
   have ha4:=HN (a:=[102,117,110,32]++n++[40]++Lib.join ps [44,32]) (b:=[41,32,61,32]) (by simp only [AA,AE,AH];omega)
   simp only [A0,A3] at ha1 ha2 ha3 ha4
   (repeat' (first|refine Run.ct rfl ?_|((first|refine Run.reg mixed ?_|refine Run.AJ ?_|(refine AG.mk rfl (A5 _ hq1 (by simp only [AA,AE,AH];omega)) ?_;rintro _ σ1 ⟨rfl,hb2⟩)|refine AG.det (hjn _) ?_|(refine AP rfl (fun h=>?_) (fun h=>?_)<;>try (cases h;done)))<;>try simp -implicitDefEqProofs only [BG hlt2,he,hw1,ha1,ha2,ha3,ha4,AB,go_sem])|(refine ⟨fun h=>?_,fun h=>?_⟩<;>first|(cases h;done)|try simp only [h])|fail))
   (repeat' (first|refine Run.ct rfl ?_|((first|refine Run.reg mixed ?_|refine Run.AJ ?_|(refine AG.mk rfl (hex σ σ1 _ ⟨trivial,hp⟩ hb2 (by simp only [AA,AE,AH];omega)) ?_;rintro _ σ2 ⟨rfl,hb3⟩)|(refine AP rfl (fun h=>?_) (fun h=>?_)<;>try (cases h;done)))<;>try simp -implicitDefEqProofs only [hw1,go_sem])|(refine ⟨fun h=>?_,fun h=>?_⟩<;>first|(cases h;done)|try simp only [h])|fail))
   (repeat' (first|refine Run.ct rfl ?_|((first|refine Run.reg mixed ?_|refine Run.AJ ?_|(refine AG.mk rfl (A5 _ hb3 (by simp only [AA,AE,AH];omega)) ?_;rintro _ σ3 ⟨rfl,hb4⟩)|(refine AP rfl (fun h=>?_) (fun h=>?_)<;>try (cases h;done)))<;>try simp -implicitDefEqProofs only [hw1,go_sem])|(refine ⟨fun h=>?_,fun h=>?_⟩<;>first|(cases h;done)|try simp only [h])|fail))
   (repeat' (first|refine Run.ct rfl ?_|((first|refine Run.reg mixed ?_|refine Run.AJ ?_|(refine AP rfl (fun h=>?_) (fun h=>?_)<;>try (cases h;done)))<;>try simp -implicitDefEqProofs only [hw1,go_sem])|(refine ⟨fun h=>?_,fun h=>?_⟩<;>first|(cases h;done)|try simp only [h])|fail))
   refine ih2 (q+1,_,σ3) ⟨by simp only;omega,hb4,?_,fun h=>?_⟩ (by simp only;omega)
   · simp only
     rw [htf,hs2]
     simp [Il,JT,cms]
   · simp at h
 have hqe:q=fs.length:=by omega
 rw [hqe,List.take_length] at hs2
 have hst:=mI hq1 he2
 (repeat' (first|refine Run.ct rfl ?_|((first|refine Run.reg mixed ?_|refine Run.AJ ?_|(refine AG.mk rfl hst ?_;rintro _ σ1 ⟨rfl,hle1⟩)|(refine Run.Aa L7 (σ2:=σ) hle1 ?_)|(refine AP rfl (fun h=>?_) (fun h=>?_)<;>try (cases h;done)))<;>try simp -implicitDefEqProofs only [E0 hlt2,AB,go_sem])|(refine ⟨fun h=>?_,fun h=>?_⟩<;>first|(cases h;done)|try simp only [h])|fail))
 rw [hs2];rfl
end Go.Ab
