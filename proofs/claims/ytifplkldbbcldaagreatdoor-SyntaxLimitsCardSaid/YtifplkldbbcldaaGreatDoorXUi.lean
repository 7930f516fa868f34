/- Valid programs. The printer: declarations, programs. Conditions: none. -/
import Derived.Test.YtifplkldbbcldaaGreatDoorXUf
set_option linter.unusedSimpArgs false
set_option linter.unusedVariables false
set_option maxRecDepth 4000
set_option maxHeartbeats 8000000
open Bool renaming eq_iff_iff→Dd,and_eq_true→AM,true_and→BE,and_false→DZ,false_eq_true→AU
open Nat renaming le_refl→A7,le_trans→BC
open List renaming map_cons→AF,map_nil→AI,length_map→AE,mem_of_getElem?→Af,take_of_length_le→A8,all_eq_true→A6,length_cons→AD,length_append→AA,length_nil→AG,append_assoc→AT,cons_append→A0,nil_append→A3,append_nil→AY,flatten_append→MB,map_append→Bj,take_append_drop→Ed
namespace Go.Ab
open Go.Proofs
def kL (c:CE):Prop:=∀t∈c.args,t.size≤1000000
def Wh (d:DE):Prop:=∀c∈d.cons,kL c
theorem xB {b c:Bool} (h:b=true↔c=true):AV.d (.bool b)=AV.d (.bool c):=by rw [Dd.2 h]
theorem Ve (t:TE) (σ:AN) (h:t.size≤1000000):AQ Tryz.prog 105 [teA t] σ (fun v σ'=>v= .d (.bool (Bi 40 t))∧σ'=σ):=by
 refine Pf (by simp) ?_
 rw [BB]
 have hc:=Sx 40 (A7 _) t σ h
 rw [show ((41 - 40:Nat):Int)=1 from rfl] at hc
 obtain ⟨k,n,l⟩:=t
 simp only [TE.A2,teA,AF,AI] at hc ⊢
 (repeat' (first|refine Run.ct rfl ?_|((first|refine Run.reg mixed ?_|refine Run.AL ?_|refine Run.Ad JB (AN.le_refl _) ?_|refine AH.det (hc) ?_)<;>try simp -implicitDefEqProofs only [go_sem])|fail))
theorem Yb (c:CE) (σ:AN) (h:kL c):AQ Tryz.prog 103 [ceA c] σ (fun v σ'=>v= .d (.bool (RT c))∧σ'=σ):=by
 refine Ri (by simp) ?_
 rw [BB]
 have ha:=Lf (fid:=105) (caps:=[]) (by kernel_rfl) rfl (Bi 40) c.args σ (fun t ht σ1 _=>Ve t σ1 (h t ht))
 obtain ⟨nm,ar⟩:=c
 simp only [CE.enc,ceA,AF,AI] at ha ⊢
 have h6:decide ((ar.length:Int)≤6)=decide (ar.length≤6):=leN _ 6
 (repeat' (first|refine Run.ct rfl ?_|(refine cC (by first|exact GV.t|exact GV.f|exact GV.st|exact GV.sf) ⟨?_,fun h=>?_,?_⟩;rotate_left;(focus ((try simp only [AM,Bool.not_not] at h);simp -implicitDefEqProofs only [AE,h6,go_sem];first|exact Is.mk|exact Is.pv (by simp -implicitDefEqProofs only [h,YP,↓L5,↓QU,↓L6,AE,h6,go_sem];rfl)|(refine AH.det (B6 nm _) ?_;exact Is.mk)|(refine AH.det (ha) ?_;exact Is.mk)|(refine AH.gH (by simp only [h,YP];rfl) ?_;first|(refine AH.det (B6 nm _) ?_;exact Is.mk)|(refine AH.det (ha) ?_;exact Is.mk))));(try simp -implicitDefEqProofs only [Nc,SF,SG,↓L5,↓QU,↓L6,AE,h6,Jo,go_sem]))|((first|refine Run.reg mixed ?_|refine Run.AL ?_|refine Run.Ad Ks (AN.le_refl _) ?_|refine AH.det (B6 nm _) ?_|refine AH.det (ha) ?_)<;>try simp -implicitDefEqProofs only [Nc,SF,SG,↓L5,↓QU,↓L6,AE,h6,go_sem])|fail))
 simp only [RT]
theorem bZ (d:DE) (σ:AN) (h:Wh d):AQ Tryz.prog 50 [deA d] σ (fun v σ'=>v= .d (.bool (G6 d))∧σ'=σ):=by
 refine Tk (by simp) ?_
 rw [BB]
 have ha:=H8 (fid:=51) (caps:=[]) (by kernel_rfl) rfl DU d.vars σ (fun x _ σ1 _=>Dh x σ1)
 have hc:=T7 (fid:=103) (caps:=[]) (by kernel_rfl) rfl RT d.cons σ (fun c hc σ1 _=>Yb c σ1 (h c hc))
 obtain ⟨nm,vs,cs⟩:=d
 simp only [DE.enc,deA,AF,AI] at ha hc ⊢
 have h6:decide ((6:Int) < (vs.length:Int))=!decide (vs.length≤6):=gtN _ 6
 have h8:decide ((8:Int) < (cs.length:Int))=!decide (cs.length≤8):=gtN _ 8
 have h1:decide ((cs.length:Int) < 1)=decide (cs.length < 1):=ltN _ 1
 (repeat' (first|refine Run.ct rfl ?_|(refine cC (by first|exact GV.t|exact GV.f|exact GV.st|exact GV.sf) ⟨?_,fun h=>?_,?_⟩;rotate_left;(focus ((try simp only [AM,Bool.not_not] at h);simp -implicitDefEqProofs only [AE,h6,h8,h1,go_sem];first|exact Is.mk|exact Is.pv (by simp -implicitDefEqProofs only [h,YP,↓L5,↓QU,↓L6,AE,h6,h8,h1,go_sem];rfl)|(refine AH.det (B6 nm _) ?_;exact Is.mk)|(refine AH.det (ha) ?_;exact Is.mk)|(refine AH.det (hc) ?_;exact Is.mk)|(refine AH.gH (by simp only [h,YP];rfl) ?_;first|(refine AH.det (B6 nm _) ?_;exact Is.mk)|(refine AH.det (ha) ?_;exact Is.mk)|(refine AH.det (hc) ?_;exact Is.mk))));(try simp -implicitDefEqProofs only [Nc,SF,SG,↓L5,↓QU,↓L6,AE,h6,h8,h1,Lw,go_sem]))|((first|refine Run.reg mixed ?_|refine Run.AL ?_|refine Run.Ad Mj (AN.le_refl _) ?_|refine AH.det (B6 nm _) ?_|refine AH.det (ha) ?_|refine AH.det (hc) ?_)<;>try simp -implicitDefEqProofs only [Nc,SF,SG,↓L5,↓QU,↓L6,AE,h6,h8,h1,go_sem])|(refine ⟨fun h=>?_,fun h=>?_⟩<;>first|(cases h;done)|try simp only [h])|fail))
 all_goals (refine xB ?_;simp [G6] at *;try grind)
set_option maxHeartbeats 4000000 in
theorem Ld (p:Pg) (σ:AN) (h:∀d∈p.data,Wh d):AQ Tryz.prog 19 [pgA p] σ (fun v σ'=>v= .d (.bool (Cw p))∧σ'=σ):=by
 obtain ⟨ds,fs⟩:=p
 refine Xb (by simp) ?_
 rw [BB,pgA]
 simp only [Pg.enc,AF,AI] at h ⊢
 have h12:decide ((12:Int) < (ds.length:Int))=!decide (ds.length≤12):=gtN _ 12
 have h24:decide ((24:Int) < (fs.length:Int))=!decide (fs.length≤24):=gtN _ 24
 by_cases hd:ds.length≤12
 case neg=>
  (repeat' (first|refine Run.ct rfl ?_|((first|refine Run.reg mixed ?_|refine Run.AL ?_|refine Run.Ad DC (AN.le_refl _) ?_)<;>try simp -implicitDefEqProofs only [AE,h12,decide_eq_false hd,go_sem])|fail))
  simp [Cw,hd]
 by_cases hf:fs.length≤24
 case neg=>
  (repeat' (first|refine Run.ct rfl ?_|((first|refine Run.reg mixed ?_|refine Run.AL ?_|refine Run.Ad DC (AN.le_refl _) ?_)<;>try simp -implicitDefEqProofs only [AE,h12,decide_eq_true hd,h24,decide_eq_false hf,go_sem])|fail))
  simp [Cw,hf]
 have hres:Cw ⟨ds,fs⟩=(ds.all G6&&(fs.foldlM PG 600).isSome):=by simp [Cw,hd,hf]
 (repeat' (first|refine Run.ct rfl ?_|((first|refine Run.reg mixed ?_|refine Run.AL ?_)<;>try simp -implicitDefEqProofs only [AE,h12,decide_eq_true hd,h24,decide_eq_true hf,go_sem])|fail))
 refine Run.Bb ?_
 refine Run.Bh ((fun (a1:AV) (a19:AV) (a20:AV)=>fun (i:Nat)=>put 1 a1 (put 19 a19 (put 20 a20 (put 21 (.d (.int .i64 i)) U)))) _ _ _) (fun _=>B4 1 [.d (.sl (ds.map DE.enc)),.d (.sl (fs.map FE.enc))] E) (fun _=>σ) (fun i=>i≤ds.length∧(ds.take i).all G6=true) (fun i=>ds.length - i) ?_ 0 ⟨by simp,by simp⟩
 rintro i ⟨hi,hok⟩ ih
 by_cases hlt:i < ds.length
 · obtain ⟨x,hx⟩:=Cd hlt
   have he:=C5 (enc:=DE.enc) hx
   have hw1:=BN (show i+1≤9000000000000000000 by omega)
   have hc:=bZ x σ (h x (Af hx))
   cases hp:G6 x with
   |true=>
    have hs:=KV hok hx hp
    rw [hp] at hc
    obtain ⟨nm,vs,cs⟩:=x
    simp only [DE.enc,deA,AF,AI] at he hc
    (repeat' (first|refine Run.ct rfl ?_|((first|refine Run.reg mixed ?_|refine Run.AL ?_|refine AH.det (hc) ?_)<;>try simp -implicitDefEqProofs only [BU hlt,he,hw1,go_sem])|fail))
    exact ih (i+1) ⟨by omega,hs⟩ (by omega)
   |false=>
    have hs:=XA (p:=G6) hx hp
    rw [hp] at hc
    obtain ⟨nm,vs,cs⟩:=x
    simp only [DE.enc,deA,AF,AI] at he hc
    (repeat' (first|refine Run.ct rfl ?_|((first|refine Run.reg mixed ?_|refine Run.AL ?_|refine Run.Ad DC (AN.le_refl _) ?_|refine AH.det (hc) ?_)<;>try simp -implicitDefEqProofs only [BU hlt,he,hw1,go_sem])|fail))
    rw [hres,hs];rfl
 · rw [A8 (by omega)] at hok
   rw [hok,BE] at hres
   clear ih
   (repeat' (first|refine Run.ct rfl ?_|((first|refine Run.reg mixed ?_|refine Run.AL ?_)<;>try simp -implicitDefEqProofs only [FR hlt,go_sem])|fail))
   intro j hj
   have hle:=Ez (cs:=[AV.d (.int .i64 0)]) hj
   (repeat' (first|refine Run.ct rfl ?_|((first|refine Run.reg mixed ?_|refine Run.AL ?_)<;>try simp -implicitDefEqProofs only [AE,go_sem])|fail))
   refine Run.Bb ?_
   refine Run.Bh ((fun (a5:AV) (a32:AV) (a33:AV)=>fun (y:Nat×Nat)=>put 5 a5 (put 32 a32 (put 33 a33 (put 34 (.d (.int .i64 y.1)) U)))) _ _ _) (fun _=>E) (fun y=>σ.AK j [.d (.int .i64 (MF y.2))])
    (fun y=>y.1≤fs.length∧y.2≤600∧(fs.take y.1).foldlM PG 600=some y.2) (fun y=>fs.length - y.1) ?_ (0,600) ⟨by simp,by simp,rfl⟩
   rintro ⟨i,q⟩ ⟨hi,hq,hok⟩ ih
   simp only at hi hq hok
   by_cases hlt:i < fs.length
   · obtain ⟨x,hx⟩:=Cd hlt
     have he:=C5 (enc:=FE.enc) hx
     have hw1:=BN (show i+1≤9000000000000000000 by omega)
     have hnm:=Dh x.name (σ.AK j [.d (.int .i64 (MF q))])
     have hps:=H8 (fid:=51) (caps:=[]) (by kernel_rfl) rfl DU x.params (σ.AK j [.d (.int .i64 (MF q))]) (fun x _ σ1 _=>Dh x σ1)
     have h6:decide ((6:Int) < (x.params.length:Int))=!decide (x.params.length≤6):=gtN _ 6
     have hc:=WK j 40 q (A7 _) hq x.body (σ.AK j [.d (.int .i64 (MF q))]) (by simp only [AO,if_true])
     rw [show ((41 - 40:Nat):Int)=1 from rfl] at hc
     have hno:PG q x=none→fs.foldlM PG 600=none:=fun h=>Jt hok hx h
     have hyes:∀r,PG q x=some r→(fs.take (i+1)).foldlM PG 600=some r:=fun r h=>by rw [Ju hok hx,h]
     have hvf:PG q x=if DU x.name&&decide (x.params.length≤6)&&x.params.all DU then vEx 40 q x.body else none:=rfl
     cases h1:DU x.name with
     |false=>
      rw [h1] at hnm hvf
      obtain ⟨nm,ps,o,n,u,ns,ks,al⟩:=x
      simp only [FE.enc,Ex.A2] at he hnm
      (repeat' (first|refine Run.ct rfl ?_|((first|refine Run.reg mixed ?_|refine Run.AL ?_|(refine Run.Ad DC (σ2:=σ) (Ez hj) ?_)|refine AH.det (hnm) ?_)<;>try simp -implicitDefEqProofs only [BU hlt,he,go_sem])|fail))
      rw [hres,hno hvf];rfl
     |true=>
     by_cases h2:x.params.length≤6
     case neg=>
      rw [decide_eq_false h2] at h6
      rw [h1,decide_eq_false h2] at hvf
      rw [h1] at hnm
      obtain ⟨nm,ps,o,n,u,ns,ks,al⟩:=x
      simp only [FE.enc,Ex.A2] at he hnm h6
      (repeat' (first|refine Run.ct rfl ?_|((first|refine Run.reg mixed ?_|refine Run.AL ?_|(refine Run.Ad DC (σ2:=σ) (Ez hj) ?_)|refine AH.det (hnm) ?_)<;>try simp -implicitDefEqProofs only [BU hlt,he,AE,h6,go_sem])|fail))
      rw [hres,hno hvf];rfl
     rw [decide_eq_true h2] at h6
     cases h3:x.params.all DU with
     |false=>
      rw [h1,h3] at hvf
      rw [DZ] at hvf
      rw [h1] at hnm
      rw [h3] at hps
      obtain ⟨nm,ps,o,n,u,ns,ks,al⟩:=x
      simp only [FE.enc,Ex.A2] at he hnm h6 hps
      (repeat' (first|refine Run.ct rfl ?_|((first|refine Run.reg mixed ?_|refine Run.AL ?_|(refine Run.Ad DC (σ2:=σ) (Ez hj) ?_)|refine AH.det (hnm) ?_|refine AH.det (hps) ?_)<;>try simp -implicitDefEqProofs only [BU hlt,he,AE,h6,go_sem])|fail))
      rw [hres,hno hvf];rfl
     |true=>
     rw [h1,h3,decide_eq_true h2] at hvf
     rw [h1] at hnm
     rw [h3] at hps
     cases hv:vEx 40 q x.body with
     |some r=>
      have hr:=SP _ _ _ _ hv
      rw [hv] at hvf
      have hc:=VXQ.yes hc hv
      have hs:=hyes r hvf
      obtain ⟨nm,ps,o,n,u,ns,ks,al⟩:=x
      simp only [FE.enc,Ex.A2,exA,AF,AI] at he hnm h6 hps hc
      (repeat' (first|refine Run.ct rfl ?_|((first|refine Run.reg mixed ?_|refine Run.AL ?_|(refine AH.mk rfl hc ?_;rintro _ _ ⟨rfl,rfl⟩)|refine AH.det (hnm) ?_|refine AH.det (hps) ?_)<;>try simp -implicitDefEqProofs only [BU hlt,he,hw1,AE,h6,go_sem])|fail))
      exact ih (i+1,r) ⟨by simp only;omega,by simp only;omega,hs⟩ (by simp only;omega)
     |none=>
      rw [hv] at hvf
      have hc:=VXQ.no hc hv
      obtain ⟨nm,ps,o,n,u,ns,ks,al⟩:=x
      simp only [FE.enc,Ex.A2,exA,AF,AI] at he hnm h6 hps hc
      (repeat' (first|refine Run.ct rfl ?_|((first|refine Run.reg mixed ?_|refine Run.AL ?_|(refine AH.mk rfl hc ?_;rintro _ _ ⟨rfl,z,rfl⟩)|(refine Run.Ad DC (σ2:=σ) (Ez hj) ?_)|refine AH.det (hnm) ?_|refine AH.det (hps) ?_)<;>try simp -implicitDefEqProofs only [BU hlt,he,hw1,AE,h6,go_sem])|fail))
      rw [hres,hno hvf];rfl
   · rw [A8 (by omega)] at hok
     (repeat' (first|refine Run.ct rfl ?_|((first|refine Run.reg mixed ?_|refine Run.AL ?_|(refine Run.Ad DC (σ2:=σ) (Ez hj) ?_))<;>try simp -implicitDefEqProofs only [FR hlt,go_sem])|fail))
     rw [hres,hok];rfl
end Go.Ab
namespace Go.Ab
open Go.Proofs
theorem sQ:Ap Tryz.prog 82=true:=by kernel_rfl
theorem yX:Ap Tryz.prog 84=true:=by kernel_rfl
theorem vC:Ap Tryz.prog 80=true:=by kernel_rfl
theorem sR {i:Nat} (j:Nat) {c:CE} (h:RT c=true):
 WX (fun σ=>σ.blk j=some [.gp i 0]) 82 ([]++[ceA c]++[.gp j 0]) i (fmtC c):=by
 intro σ0 σ s hH0 hb0 hlen
 have hjs:=hH0.1
 have hH:(fun _=>True) σ0∧σ0.gt Rv=some Tt:=⟨trivial,hH0.2⟩
 obtain ⟨n,l⟩:=c
 simp only [RT,AM,decide_eq_true_eq,A6] at h
 have hop:=Hm (H:=fun _=>True) i (first:=[.gp i 0]) (caps:=[]) yX ⟨rfl,rfl⟩ Co l (fun x hx=>r2 i 40 x (h.2 x hx))
 refine O4 (by simp) ?_
 show Run _ _ _ (Ao [_,_]) _ _
 rw [BK]
 rw [fmtC] at hlen ⊢
 simp only [ceA,CE.enc,AF,AI] at hlen ⊢
 (repeat' (first|refine Run.ct rfl ?_|((first|refine Run.reg mixed ?_|refine Run.AL ?_|(refine AH.mk rfl (A4 n hb0 (by (try simp only [AD,AA,AG] at hlen ⊢);omega)) ?_;rintro _ σ1 ⟨rfl,hb1⟩)|(refine AR rfl (fun h=>?_) (fun h=>?_)<;>try (cases h;done)))<;>try simp -implicitDefEqProofs only [(hb0.le.blk j _ hjs),go_sem])|(refine ⟨fun h=>?_,fun h=>?_⟩<;>first|(cases h;done)|try simp only [h])|fail))
 try simp -implicitDefEqProofs only [(hb1.le.blk j _ hjs),go_sem]
 (repeat' (first|refine Run.ct rfl ?_|((first|refine Run.reg mixed ?_|refine Run.AL ?_|(refine AH.mk rfl (hop σ0 σ1 _ hH hb1 (by (try simp only [AD,AA,AG] at hlen ⊢);omega)) ?_;rintro _ σ2 ⟨rfl,hb2⟩)|(refine AR rfl (fun h=>?_) (fun h=>?_)<;>try (cases h;done)))<;>try simp -implicitDefEqProofs only [(hb1.le.blk j _ hjs),go_sem])|(refine ⟨fun h=>?_,fun h=>?_⟩<;>first|(cases h;done)|try simp only [h])|fail))
 try simp only [AT,A0,A3,AY] at hb2 ⊢
 exact Run.fin IW rfl (fun _ _ h=>h) (AN.le_refl _) ⟨rfl,hb2⟩
theorem sT {i:Nat} {d:DE} (h:G6 d=true):WC 42 [.gp i 0,deA d] i (Th d):=by
 intro σ0 σ s hH hbu hlen
 obtain ⟨n,vs,cs⟩:=d
 simp only [G6,AM,decide_eq_true_eq,A6] at h
 have hvs:=Mt (H:=fun _=>True) i (first:=[.gp i 0]) (caps:=[]) vC ⟨rfl,rfl⟩ id vs (fun x _=>vD i x)
 rw [List.map_id] at hvs
 refine Q6 (by simp) ?_
 rw [BK]
 rw [Th] at hlen ⊢
 simp only [deA,DE.enc,AF,AI] at hlen ⊢
 (repeat' (first|refine Run.ct rfl ?_|((first|refine Run.reg mixed ?_|refine Run.AL ?_|(refine AR rfl (fun h=>?_) (fun h=>?_)<;>try (cases h;done)))<;>try simp -implicitDefEqProofs only [go_sem])|(refine ⟨fun h=>?_,fun h=>?_⟩<;>first|(cases h;done)|try simp only [h])|fail))
 intro j hj
 have hun:∀s' σ',BuS (σ0.AK j [.gp i 0]) i s' σ'→BuS σ0 i s' σ':=fun s' σ' h=>hbu.kP hj h
 have hjs:(σ0.AK j [.gp i 0]).blk j=some [.gp i 0]:=by simp [AO]
 have hH:(fun _=>True) (σ0.AK j [.gp i 0])∧(σ0.AK j [.gp i 0]).gt Rv=some Tt:=⟨trivial,hH.2⟩
 have hb0:=hbu.share (cs:=[.gp i 0]) hj
 generalize σ.AK j [.gp i 0]=τ at hb0 ⊢
 generalize σ0.AK j [.gp i 0]=τ0 at hun hjs hH hb0
 have hHj:(fun σ=>σ.blk j=some [.gp i 0]) τ0∧τ0.gt Rv=some Tt:=⟨hjs,hH.2⟩
 have hsep:=OH (H:=fun σ=>σ.blk j=some [.gp i 0]) i (first:=[]) (caps:=[.gp j 0]) sQ ⟨rfl,rfl⟩ [32,124,32] fmtC cs (fun x hx=>sR j (h.2 x hx))
 have ha1:=HF (a:=[100,97,116,97,32]) (b:=n) (by simp only [AA,AD,AG] at hlen ⊢;omega)
 simp only [A0,A3] at ha1
 (repeat' (first|refine Run.ct rfl ?_|((first|refine Run.reg mixed ?_|refine Run.AL ?_|(refine AH.mk rfl (A4 _ hb0 (by (try simp only [AD,AA,AG] at hlen ⊢);omega)) ?_;rintro _ σ1 ⟨rfl,hb1⟩)|(refine AR rfl (fun h=>?_) (fun h=>?_)<;>try (cases h;done)))<;>try simp -implicitDefEqProofs only [ha1,(hb0.le.blk j _ hjs),go_sem])|(refine ⟨fun h=>?_,fun h=>?_⟩<;>first|(cases h;done)|try simp only [h])|fail))
 try simp -implicitDefEqProofs only [(hb1.le.blk j _ hjs),go_sem]
 (repeat' (first|refine Run.ct rfl ?_|((first|refine Run.reg mixed ?_|refine Run.AL ?_|(refine AH.mk rfl (hvs τ0 σ1 _ hH hb1 (by (try simp only [AD,AA,AG] at hlen ⊢);omega)) ?_;rintro _ σ2 ⟨rfl,hb2⟩)|(refine AR rfl (fun h=>?_) (fun h=>?_)<;>try (cases h;done)))<;>try simp -implicitDefEqProofs only [ha1,(hb1.le.blk j _ hjs),go_sem])|(refine ⟨fun h=>?_,fun h=>?_⟩<;>first|(cases h;done)|try simp only [h])|fail))
 try simp -implicitDefEqProofs only [(hb2.le.blk j _ hjs),go_sem]
 (repeat' (first|refine Run.ct rfl ?_|((first|refine Run.reg mixed ?_|refine Run.AL ?_|(refine AH.mk rfl (A4 [32,61,32] hb2 (by (try simp only [AD,AA,AG] at hlen ⊢);omega)) ?_;rintro _ σ3 ⟨rfl,hb3⟩)|(refine AR rfl (fun h=>?_) (fun h=>?_)<;>try (cases h;done)))<;>try simp -implicitDefEqProofs only [ha1,(hb2.le.blk j _ hjs),go_sem])|(refine ⟨fun h=>?_,fun h=>?_⟩<;>first|(cases h;done)|try simp only [h])|fail))
 try simp -implicitDefEqProofs only [(hb3.le.blk j _ hjs),go_sem]
 (repeat' (first|refine Run.ct rfl ?_|((first|refine Run.reg mixed ?_|refine Run.AL ?_|(refine AH.mk rfl (hsep τ0 σ3 _ hHj hb3 (by (try simp only [AD,AA,AG] at hlen ⊢);omega)) ?_;rintro _ σ4 ⟨rfl,hb4⟩)|(refine AR rfl (fun h=>?_) (fun h=>?_)<;>try (cases h;done)))<;>try simp -implicitDefEqProofs only [ha1,(hb3.le.blk j _ hjs),go_sem])|(refine ⟨fun h=>?_,fun h=>?_⟩<;>first|(cases h;done)|try simp only [h])|fail))
 try simp -implicitDefEqProofs only [(hb4.le.blk j _ hjs),go_sem]
 (repeat' (first|refine Run.ct rfl ?_|((first|refine Run.reg mixed ?_|refine Run.AL ?_|(refine AH.mk rfl (A4 [59,10] hb4 (by (try simp only [AD,AA,AG] at hlen ⊢);omega)) ?_;rintro _ σ5 ⟨rfl,hb5⟩)|(refine AR rfl (fun h=>?_) (fun h=>?_)<;>try (cases h;done)))<;>try simp -implicitDefEqProofs only [ha1,(hb4.le.blk j _ hjs),go_sem])|(refine ⟨fun h=>?_,fun h=>?_⟩<;>first|(cases h;done)|try simp only [h])|fail))
 try simp only [AT,A0,A3,AY] at hb5 ⊢
 exact Run.fin Jh rfl (fun _ _ h=>h) (AN.le_refl _) ⟨rfl,hun _ _ hb5⟩
theorem Zq {α:Type} {f:α→Str} {l:List α} {k:Nat} {x:α} (h:l[k]?=some x):((l.take (k+1)).map f).flatten=((l.take k).map f).flatten++f x:=by
 rw [HQ h];simp
theorem Y8 {α:Type} (f:α→Str) (l:List α) (k:Nat):((l.take k).map f).flatten.length≤(l.map f).flatten.length:=by
 have:((l.map f).flatten).length=((l.take k).map f).flatten.length+((l.drop k).map f).flatten.length:=by
  rw [← AA,← MB,← Bj,Ed]
 omega
set_option maxHeartbeats 4000000 in
theorem Va (p:Pg) (σ:AN) (hp:σ.gt Rv=some Tt) (hs:∀d∈p.data,∀c∈d.cons,∀t∈c.args,t.size≤100000):
 AQ Tryz.prog 17 [pgA p] σ (fun v σ'=>v= .d (.str (if Cw p then Ys p else []))∧σ'=σ):=by
 have hv:=Ld p σ (fun d hd c hc t ht=>BC (hs d hd c hc t ht) (by decide))
 refine WL (by simp) ?_
 rw [BB]
 cases hval:Cw p with
 |false=>
  rw [hval] at hv
  obtain ⟨ds,fs⟩:=p
  simp only [pgA,Pg.enc,AF,AI,AU,if_false] at hv ⊢
  (repeat' (first|refine Run.ct rfl ?_|((first|refine Run.reg mixed ?_|refine Run.AL ?_|(refine Run.Ad LW (σ2:=σ) (AN.le_refl _) ?_)|refine AH.det (hv) ?_|(refine AR rfl (fun h=>?_) (fun h=>?_)<;>try (cases h;done)))<;>try simp -implicitDefEqProofs only [go_sem])|(refine ⟨fun h=>?_,fun h=>?_⟩<;>first|(cases h;done)|try simp only [h])|fail))
 |true=>
 rw [hval] at hv
 have hlen:=tA hval hs
 obtain ⟨⟨hd12,hda⟩,hf24,hfa⟩:=Vz hval
 obtain ⟨ds,fs⟩:=p
 simp only [pgA,Pg.enc,AF,AI,if_true] at hv hd12 hda hf24 hfa ⊢
 rw [Ys,AA] at hlen
 simp only at hlen
 (repeat' (first|refine Run.ct rfl ?_|((first|refine Run.reg mixed ?_|refine Run.AL ?_|(refine XEx.cK rfl rfl rfl (fun i hi=>?_))|refine AH.det (hv) ?_|(refine AR rfl (fun h=>?_) (fun h=>?_)<;>try (cases h;done)))<;>try simp -implicitDefEqProofs only [AE,go_sem])|(refine ⟨fun h=>?_,fun h=>?_⟩<;>first|(cases h;done)|try simp only [h])|fail))
 have hbu0:=lE hi
 have hbk0:((σ.AK i [.Ew,.AX]).GO i (2,87)).blk i=some [.Ew,.AX]:=by simp [AN.GO,AN.AK]
 generalize (σ.AK i [AV.Ew,.AX]).GO i (2,87)=τ0 at hbu0 hbk0 ⊢
 (repeat' (first|refine Run.ct rfl ?_|((first|refine Run.reg mixed ?_|refine Run.AL ?_|(refine AR rfl (fun h=>?_) (fun h=>?_)<;>try (cases h;done)))<;>try simp -implicitDefEqProofs only [AE,go_sem])|(refine ⟨fun h=>?_,fun h=>?_⟩<;>first|(cases h;done)|try simp only [h])|fail))
 refine Run.Bb ?_
 refine Run.Bh ((fun (a1:AV) (a3:AV) (a14:AV) (a15:AV)=>fun (y:Nat×List UInt8×AN)=>put 1 a1 (put 3 a3 (put 14 a14 (put 15 a15 (put 16 (.d (.int .i64 y.1)) U))))) _ _ _ _) (fun _=>B4 1 [.d (.sl (ds.map DE.enc)),.d (.sl (fs.map FE.enc))] E) (fun y=>y.2.2)
  (fun y=>y.1≤ds.length∧BuS σ i y.2.1 y.2.2∧y.2.1=((ds.take y.1).map Th).flatten∧(y.2.1=[]→∃p,y.2.2.blk i=some [p,.AX])) (fun y=>ds.length - y.1) ?_ (0,[],τ0) ⟨by simp,hbu0,by simp,fun _=>⟨_,hbk0⟩⟩
 rintro ⟨k,s1,τ⟩ ⟨hk,hb1,hs1,he1⟩ ih
 simp only at hk hb1 hs1 he1
 by_cases hlt:k < ds.length
 · obtain ⟨d,hd⟩:=Cd hlt
   have he:=C5 (enc:=DE.enc) hd
   have hw1:IntKind.i64.wrap ((k:Int)+1)=((k+1:Nat):Int):=by rw [BO (by omega) (by omega)];omega
   have hdo:=sT (i:=i) (hda d (Af hd))
   have htf:=Zq (f:=Th) hd
   have hle:=Y8 Th ds (k+1)
   have hne:Th d≠[]:=by rw [Th];simp
   rw [htf,← hs1,AA] at hle
   have hc:=hdo σ τ s1 ⟨trivial,hp⟩ hb1 (by omega)
   generalize Th d=x at hc htf hne hle
   obtain ⟨n,vs,cs⟩:=d
   simp only [deA,DE.enc,AF,AI] at he hc
   (repeat' (first|refine Run.ct rfl ?_|((first|refine Run.reg mixed ?_|refine Run.AL ?_|(refine AH.mk rfl hc ?_;rintro _ σ1 ⟨rfl,hb2⟩)|(refine AR rfl (fun h=>?_) (fun h=>?_)<;>try (cases h;done)))<;>try simp -implicitDefEqProofs only [BU hlt,he,hw1,AE,go_sem])|(refine ⟨fun h=>?_,fun h=>?_⟩<;>first|(cases h;done)|try simp only [h])|fail))
   (repeat' (first|refine Run.ct rfl ?_|((first|refine Run.reg mixed ?_|refine Run.AL ?_|(refine AR rfl (fun h=>?_) (fun h=>?_)<;>try (cases h;done)))<;>try simp -implicitDefEqProofs only [hw1,go_sem])|(refine ⟨fun h=>?_,fun h=>?_⟩<;>first|(cases h;done)|try simp only [h])|fail))
   exact ih (k+1,_,σ1) ⟨by simp only;omega,hb2,by simp only;rw [htf,hs1],fun h=>absurd (List.append_eq_nil_iff.1 h).2 hne⟩ (by simp only;omega)
 have hke:k=ds.length:=by omega
 rw [hke,List.take_length] at hs1
 (repeat' (first|refine Run.ct rfl ?_|((first|refine Run.reg mixed ?_|refine Run.AL ?_|(refine AR rfl (fun h=>?_) (fun h=>?_)<;>try (cases h;done)))<;>try simp -implicitDefEqProofs only [FR hlt,AE,go_sem])|(refine ⟨fun h=>?_,fun h=>?_⟩<;>first|(cases h;done)|try simp only [h])|fail))
 refine Run.Bb ?_
 refine Run.Bh ((fun (a3:AV) (a25:AV) (a26:AV)=>fun (y:Nat×List UInt8×AN)=>put 3 a3 (put 25 a25 (put 26 a26 (put 27 (.d (.int .i64 y.1)) U)))) _ _ _) (fun _=>E) (fun y=>y.2.2)
  (fun y=>y.1≤fs.length∧BuS σ i y.2.1 y.2.2∧y.2.1=(ds.map Th).flatten++((fs.take y.1).map VH).flatten∧(y.2.1=[]→∃p,y.2.2.blk i=some [p,.AX])) (fun y=>fs.length - y.1) ?_ (0,s1,τ) ⟨by simp,hb1,by simp [hs1],he1⟩
 rintro ⟨q,s2,τ2⟩ ⟨hq,hq1,hs2,he2⟩ ih2
 simp only at hq hq1 hs2 he2
 by_cases hlt2:q < fs.length
 · obtain ⟨d,hd⟩:=Cd hlt2
   have he:=C5 (enc:=FE.enc) hd
   have hw1:IntKind.i64.wrap ((q:Int)+1)=((q+1:Nat):Int):=by rw [BO (by omega) (by omega)];omega
   obtain ⟨hhd,hnb,hsz⟩:=hfa d (Af hd)
   have htf:=Zq (f:=VH) hd
   have hle:=Y8 VH fs (q+1)
   have hne:VH d≠[]:=by rw [VH];simp
   rw [htf,AA] at hle
   have hl2:s2.length+(VH d).length≤10000000000:=by rw [hs2,AA];omega
   have hex:=aE i d.body hnb 0
   unfold EC at hex
   rw [pl,if_neg (by omega)] at hex
   rw [VH] at hl2 htf hne
   simp only [Ml,AM,decide_eq_true_eq] at hhd
   obtain ⟨n,ps,b⟩:=d
   simp only at hl2 htf hne hex hhd
   generalize Ay b=tb at *
   obtain ⟨ob,nb,ub,nsb,ksb,alb⟩:=b
   simp only [exA,FE.enc,Ex.A2,AF,AI,A0,A3] at he hex
   have hlen2:=hl2
   simp only [I9,JH,cms,AA,AD,AG] at hlen2
   have hjn:=fun σ=>jJ ps [44,32] σ (by omega) (by omega)
   have ha1:=HF (a:=[102,117,110,32]) (b:=n) (by simp only [AA,AD,AG];omega)
   have ha2:=HF (a:=[102,117,110,32]++n) (b:=[40]) (by simp only [AA,AD,AG];omega)
   have ha3:=HF (a:=[102,117,110,32]++n++[40]) (b:=Lib.join ps [44,32]) (by simp only [AA,AD,AG];omega)
   have ha4:=HF (a:=[102,117,110,32]++n++[40]++Lib.join ps [44,32]) (b:=[41,32,61,32]) (by simp only [AA,AD,AG];omega)
   simp only [A0,A3] at ha1 ha2 ha3 ha4
   (repeat' (first|refine Run.ct rfl ?_|((first|refine Run.reg mixed ?_|refine Run.AL ?_|(refine AH.mk rfl (A4 _ hq1 (by simp only [AA,AD,AG];omega)) ?_;rintro _ σ1 ⟨rfl,hb2⟩)|refine AH.det (hjn _) ?_|(refine AR rfl (fun h=>?_) (fun h=>?_)<;>try (cases h;done)))<;>try simp -implicitDefEqProofs only [BU hlt2,he,hw1,ha1,ha2,ha3,ha4,AE,go_sem])|(refine ⟨fun h=>?_,fun h=>?_⟩<;>first|(cases h;done)|try simp only [h])|fail))
   (repeat' (first|refine Run.ct rfl ?_|((first|refine Run.reg mixed ?_|refine Run.AL ?_|(refine AH.mk rfl (hex σ σ1 _ ⟨trivial,hp⟩ hb2 (by simp only [AA,AD,AG];omega)) ?_;rintro _ σ2 ⟨rfl,hb3⟩)|(refine AR rfl (fun h=>?_) (fun h=>?_)<;>try (cases h;done)))<;>try simp -implicitDefEqProofs only [hw1,go_sem])|(refine ⟨fun h=>?_,fun h=>?_⟩<;>first|(cases h;done)|try simp only [h])|fail))
   (repeat' (first|refine Run.ct rfl ?_|((first|refine Run.reg mixed ?_|refine Run.AL ?_|(refine AH.mk rfl (A4 _ hb3 (by simp only [AA,AD,AG];omega)) ?_;rintro _ σ3 ⟨rfl,hb4⟩)|(refine AR rfl (fun h=>?_) (fun h=>?_)<;>try (cases h;done)))<;>try simp -implicitDefEqProofs only [hw1,go_sem])|(refine ⟨fun h=>?_,fun h=>?_⟩<;>first|(cases h;done)|try simp only [h])|fail))
   (repeat' (first|refine Run.ct rfl ?_|((first|refine Run.reg mixed ?_|refine Run.AL ?_|(refine AR rfl (fun h=>?_) (fun h=>?_)<;>try (cases h;done)))<;>try simp -implicitDefEqProofs only [hw1,go_sem])|(refine ⟨fun h=>?_,fun h=>?_⟩<;>first|(cases h;done)|try simp only [h])|fail))
   refine ih2 (q+1,_,σ3) ⟨by simp only;omega,hb4,?_,fun h=>?_⟩ (by simp only;omega)
   · simp only
     rw [htf,hs2]
     simp [I9,JH,cms]
   · simp at h
 have hqe:q=fs.length:=by omega
 rw [hqe,List.take_length] at hs2
 have hst:=kU hq1 he2
 (repeat' (first|refine Run.ct rfl ?_|((first|refine Run.reg mixed ?_|refine Run.AL ?_|(refine AH.mk rfl hst ?_;rintro _ σ1 ⟨rfl,hle1⟩)|(refine Run.Ad LW (σ2:=σ) hle1 ?_)|(refine AR rfl (fun h=>?_) (fun h=>?_)<;>try (cases h;done)))<;>try simp -implicitDefEqProofs only [FR hlt2,AE,go_sem])|(refine ⟨fun h=>?_,fun h=>?_⟩<;>first|(cases h;done)|try simp only [h])|fail))
 rw [hs2];rfl
end Go.Ab
