/- Valid programs. The printer: declarations, programs. Conditions: none. -/
import Derived.Test.YtifplkldbbcldaaGreatDoorXUf
set_option linter.unusedSimpArgs false
set_option linter.unusedVariables false
set_option maxRecDepth 4000
set_option maxHeartbeats 8000000
open Bool renaming eq_iff_iff→Dn,and_eq_true→AN,true_and→BJ,and_false→D9,false_eq_true→AW
open Nat renaming le_refl→A9,le_trans→BD
open List renaming map_cons→AF,map_nil→AI,length_map→AG,mem_of_getElem?→Ae,take_of_length_le→A8,all_eq_true→A7,length_cons→AB,length_append→AA,length_nil→AE,append_assoc→AT,cons_append→A0,nil_append→A3,append_nil→A1,flatten_append→MX,map_append→Bp,take_append_drop→En
namespace Go.Ab
open Go.Proofs
def oH (c:CE):Prop:=∀t∈c.args,t.size≤1000000
def eV (d:DE):Prop:=∀c∈d.cons,oH c
theorem AAX {b c:Bool} (h:b=true↔c=true):AV.d (.bool b)=AV.d (.bool c):=by rw [Dn.2 h]
theorem W6 (t:TE) (σ:AM) (h:t.size≤1000000):AP Tryz.prog 105 [teA t] σ (fun v σ'=>v= .d (.bool (Bo 40 t))∧σ'=σ):=by
 refine QM (by simp) ?_
 rw [Av]
 have hc:=Te 40 (A9 _) t σ h
 rw [show ((41 - 40:Nat):Int)=1 from rfl] at hc
 obtain ⟨k,n,l⟩:=t
 simp only [TE.A2,teA,AF,AI] at hc ⊢
 (repeat' (first|refine Run.ct rfl ?_|((first|refine Run.reg mixed ?_|refine Run.AJ ?_|refine Run.Ad JT (AM.le_refl _) ?_|refine AH.det (hc) ?_)<;>try simp -implicitDefEqProofs only [go_sem])|fail))
theorem Zi (c:CE) (σ:AM) (h:oH c):AP Tryz.prog 103 [ceA c] σ (fun v σ'=>v= .d (.bool (Ru c))∧σ'=σ):=by
 refine SU (by simp) ?_
 rw [Av]
 have ha:=MD (fid:=105) (caps:=[]) (by kernel_rfl) rfl (Bo 40) c.args σ (fun t ht σ1 _=>W6 t σ1 (h t ht))
 obtain ⟨nm,ar⟩:=c
 simp only [CE.enc,ceA,AF,AI] at ha ⊢
 have h6:decide ((ar.length:Int)≤6)=decide (ar.length≤6):=leN _ 6
 (repeat' (first|refine Run.ct rfl ?_|(refine fG (by first|exact GV.t|exact GV.f|exact GV.st|exact GV.sf) ⟨?_,fun h=>?_,?_⟩;rotate_left;(focus ((try simp only [AN,Bool.not_not] at h);simp -implicitDefEqProofs only [AG,h6,go_sem];first|exact Is.mk|exact Is.pv (by simp -implicitDefEqProofs only [h,ZX,↓Lq,↓Qu,↓Lr,AG,h6,go_sem];rfl)|(refine AH.det (Bc nm _) ?_;exact Is.mk)|(refine AH.det (ha) ?_;exact Is.mk)|(refine AH.kF (by simp only [h,ZX];rfl) ?_;first|(refine AH.det (Bc nm _) ?_;exact Is.mk)|(refine AH.det (ha) ?_;exact Is.mk))));(try simp -implicitDefEqProofs only [OH,Sj,Sk,↓Lq,↓Qu,↓Lr,AG,h6,KF,go_sem]))|((first|refine Run.reg mixed ?_|refine Run.AJ ?_|refine Run.Ad LL (AM.le_refl _) ?_|refine AH.det (Bc nm _) ?_|refine AH.det (ha) ?_)<;>try simp -implicitDefEqProofs only [OH,Sj,Sk,↓Lq,↓Qu,↓Lr,AG,h6,go_sem])|fail))
 simp only [Ru]
theorem fC (d:DE) (σ:AM) (h:eV d):AP Tryz.prog 50 [deA d] σ (fun v σ'=>v= .d (.bool (Gq d))∧σ'=σ):=by
 refine U6 (by simp) ?_
 rw [Av]
 have ha:=Hm (fid:=51) (caps:=[]) (by kernel_rfl) rfl D5 d.vars σ (fun x _ σ1 _=>Du x σ1)
 have hc:=UQ (fid:=103) (caps:=[]) (by kernel_rfl) rfl Ru d.cons σ (fun c hc σ1 _=>Zi c σ1 (h c hc))
 obtain ⟨nm,vs,cs⟩:=d
 simp only [DE.enc,deA,AF,AI] at ha hc ⊢
 have h6:decide ((6:Int) < (vs.length:Int))=!decide (vs.length≤6):=gtN _ 6
 have h8:decide ((8:Int) < (cs.length:Int))=!decide (cs.length≤8):=gtN _ 8
 have h1:decide ((cs.length:Int) < 1)=decide (cs.length < 1):=ltN _ 1
 (repeat' (first|refine Run.ct rfl ?_|(refine fG (by first|exact GV.t|exact GV.f|exact GV.st|exact GV.sf) ⟨?_,fun h=>?_,?_⟩;rotate_left;(focus ((try simp only [AN,Bool.not_not] at h);simp -implicitDefEqProofs only [AG,h6,h8,h1,go_sem];first|exact Is.mk|exact Is.pv (by simp -implicitDefEqProofs only [h,ZX,↓Lq,↓Qu,↓Lr,AG,h6,h8,h1,go_sem];rfl)|(refine AH.det (Bc nm _) ?_;exact Is.mk)|(refine AH.det (ha) ?_;exact Is.mk)|(refine AH.det (hc) ?_;exact Is.mk)|(refine AH.kF (by simp only [h,ZX];rfl) ?_;first|(refine AH.det (Bc nm _) ?_;exact Is.mk)|(refine AH.det (ha) ?_;exact Is.mk)|(refine AH.det (hc) ?_;exact Is.mk))));(try simp -implicitDefEqProofs only [OH,Sj,Sk,↓Lq,↓Qu,↓Lr,AG,h6,h8,h1,MT,go_sem]))|((first|refine Run.reg mixed ?_|refine Run.AJ ?_|refine Run.Ad NF (AM.le_refl _) ?_|refine AH.det (Bc nm _) ?_|refine AH.det (ha) ?_|refine AH.det (hc) ?_)<;>try simp -implicitDefEqProofs only [OH,Sj,Sk,↓Lq,↓Qu,↓Lr,AG,h6,h8,h1,go_sem])|(refine ⟨fun h=>?_,fun h=>?_⟩<;>first|(cases h;done)|try simp only [h])|fail))
 all_goals (refine AAX ?_;simp [Gq] at *;try grind)
set_option maxHeartbeats 4000000 in
theorem MB (p:Pg) (σ:AM) (h:∀d∈p.data,eV d):AP Tryz.prog 19 [pgA p] σ (fun v σ'=>v= .d (.bool (C0 p))∧σ'=σ):=by
 obtain ⟨ds,fs⟩:=p
 refine Yb (by simp) ?_
 rw [Av,pgA]
 simp only [Pg.enc,AF,AI] at h ⊢
 have h12:decide ((12:Int) < (ds.length:Int))=!decide (ds.length≤12):=gtN _ 12
 have h24:decide ((24:Int) < (fs.length:Int))=!decide (fs.length≤24):=gtN _ 24
 by_cases hd:ds.length≤12
 case neg=>
  (repeat' (first|refine Run.ct rfl ?_|((first|refine Run.reg mixed ?_|refine Run.AJ ?_|refine Run.Ad DN (AM.le_refl _) ?_)<;>try simp -implicitDefEqProofs only [AG,h12,decide_eq_false hd,go_sem])|fail))
  simp [C0,hd]
 by_cases hf:fs.length≤24
 case neg=>
  (repeat' (first|refine Run.ct rfl ?_|((first|refine Run.reg mixed ?_|refine Run.AJ ?_|refine Run.Ad DN (AM.le_refl _) ?_)<;>try simp -implicitDefEqProofs only [AG,h12,decide_eq_true hd,h24,decide_eq_false hf,go_sem])|fail))
  simp [C0,hf]
 have hres:C0 ⟨ds,fs⟩=(ds.all Gq&&(fs.foldlM Pd 600).isSome):=by simp [C0,hd,hf]
 (repeat' (first|refine Run.ct rfl ?_|((first|refine Run.reg mixed ?_|refine Run.AJ ?_)<;>try simp -implicitDefEqProofs only [AG,h12,decide_eq_true hd,h24,decide_eq_true hf,go_sem])|fail))
 refine Run.Ba ?_
 refine Run.Bd ((fun (a1:AV) (a19:AV) (a20:AV)=>fun (i:Nat)=>put 1 a1 (put 19 a19 (put 20 a20 (put 21 (.d (.int .i64 i)) U)))) _ _ _) (fun _=>B8 1 [.d (.sl (ds.map DE.enc)),.d (.sl (fs.map FE.enc))] E) (fun _=>σ) (fun i=>i≤ds.length∧(ds.take i).all Gq=true) (fun i=>ds.length - i) ?_ 0 ⟨by simp,by simp⟩
 rintro i ⟨hi,hok⟩ ih
 by_cases hlt:i < ds.length
 · obtain ⟨x,hx⟩:=C7 hlt
   have he:=CR (enc:=DE.enc) hx
   have hw1:=BU (show i+1≤9000000000000000000 by omega)
   have hc:=fC x σ (h x (Ae hx))
   cases hp:Gq x with
   |true=>
    have hs:=Kg hok hx hp
    rw [hp] at hc
    obtain ⟨nm,vs,cs⟩:=x
    simp only [DE.enc,deA,AF,AI] at he hc
    (repeat' (first|refine Run.ct rfl ?_|((first|refine Run.reg mixed ?_|refine Run.AJ ?_|refine AH.det (hc) ?_)<;>try simp -implicitDefEqProofs only [BZ hlt,he,hw1,go_sem])|fail))
    exact ih (i+1) ⟨by omega,hs⟩ (by omega)
   |false=>
    have hs:=Xx (p:=Gq) hx hp
    rw [hp] at hc
    obtain ⟨nm,vs,cs⟩:=x
    simp only [DE.enc,deA,AF,AI] at he hc
    (repeat' (first|refine Run.ct rfl ?_|((first|refine Run.reg mixed ?_|refine Run.AJ ?_|refine Run.Ad DN (AM.le_refl _) ?_|refine AH.det (hc) ?_)<;>try simp -implicitDefEqProofs only [BZ hlt,he,hw1,go_sem])|fail))
    rw [hres,hs];rfl
 · rw [A8 (by omega)] at hok
   rw [hok,BJ] at hres
   clear ih
   (repeat' (first|refine Run.ct rfl ?_|((first|refine Run.reg mixed ?_|refine Run.AJ ?_)<;>try simp -implicitDefEqProofs only [FD hlt,go_sem])|fail))
   intro j hj
   have hle:=FN (cs:=[AV.d (.int .i64 0)]) hj
   (repeat' (first|refine Run.ct rfl ?_|((first|refine Run.reg mixed ?_|refine Run.AJ ?_)<;>try simp -implicitDefEqProofs only [AG,go_sem])|fail))
   refine Run.Ba ?_
   refine Run.Bd ((fun (a5:AV) (a32:AV) (a33:AV)=>fun (y:Nat×Nat)=>put 5 a5 (put 32 a32 (put 33 a33 (put 34 (.d (.int .i64 y.1)) U)))) _ _ _) (fun _=>E) (fun y=>σ.AL j [.d (.int .i64 (M2 y.2))])
    (fun y=>y.1≤fs.length∧y.2≤600∧(fs.take y.1).foldlM Pd 600=some y.2) (fun y=>fs.length - y.1) ?_ (0,600) ⟨by simp,by simp,rfl⟩
   rintro ⟨i,q⟩ ⟨hi,hq,hok⟩ ih
   simp only at hi hq hok
   by_cases hlt:i < fs.length
   · obtain ⟨x,hx⟩:=C7 hlt
     have he:=CR (enc:=FE.enc) hx
     have hw1:=BU (show i+1≤9000000000000000000 by omega)
     have hnm:=Du x.name (σ.AL j [.d (.int .i64 (M2 q))])
     have hps:=Hm (fid:=51) (caps:=[]) (by kernel_rfl) rfl D5 x.params (σ.AL j [.d (.int .i64 (M2 q))]) (fun x _ σ1 _=>Du x σ1)
     have h6:decide ((6:Int) < (x.params.length:Int))=!decide (x.params.length≤6):=gtN _ 6
     have hc:=XH j 40 q (A9 _) hq x.body (σ.AL j [.d (.int .i64 (M2 q))]) (by simp only [AO,if_true])
     rw [show ((41 - 40:Nat):Int)=1 from rfl] at hc
     have hno:Pd q x=none→fs.foldlM Pd 600=none:=fun h=>KL hok hx h
     have hyes:∀r,Pd q x=some r→(fs.take (i+1)).foldlM Pd 600=some r:=fun r h=>by rw [KM hok hx,h]
     have hvf:Pd q x=if D5 x.name&&decide (x.params.length≤6)&&x.params.all D5 then vEx 40 q x.body else none:=rfl
     cases h1:D5 x.name with
     |false=>
      rw [h1] at hnm hvf
      obtain ⟨nm,ps,o,n,u,ns,ks,al⟩:=x
      simp only [FE.enc,Ex.A2] at he hnm
      (repeat' (first|refine Run.ct rfl ?_|((first|refine Run.reg mixed ?_|refine Run.AJ ?_|(refine Run.Ad DN (σ2:=σ) (FN hj) ?_)|refine AH.det (hnm) ?_)<;>try simp -implicitDefEqProofs only [BZ hlt,he,go_sem])|fail))
      rw [hres,hno hvf];rfl
     |true=>
     by_cases h2:x.params.length≤6
     case neg=>
      rw [decide_eq_false h2] at h6
      rw [h1,decide_eq_false h2] at hvf
      rw [h1] at hnm
      obtain ⟨nm,ps,o,n,u,ns,ks,al⟩:=x
      simp only [FE.enc,Ex.A2] at he hnm h6
      (repeat' (first|refine Run.ct rfl ?_|((first|refine Run.reg mixed ?_|refine Run.AJ ?_|(refine Run.Ad DN (σ2:=σ) (FN hj) ?_)|refine AH.det (hnm) ?_)<;>try simp -implicitDefEqProofs only [BZ hlt,he,AG,h6,go_sem])|fail))
      rw [hres,hno hvf];rfl
     rw [decide_eq_true h2] at h6
     cases h3:x.params.all D5 with
     |false=>
      rw [h1,h3] at hvf
      rw [D9] at hvf
      rw [h1] at hnm
      rw [h3] at hps
      obtain ⟨nm,ps,o,n,u,ns,ks,al⟩:=x
      simp only [FE.enc,Ex.A2] at he hnm h6 hps
      (repeat' (first|refine Run.ct rfl ?_|((first|refine Run.reg mixed ?_|refine Run.AJ ?_|(refine Run.Ad DN (σ2:=σ) (FN hj) ?_)|refine AH.det (hnm) ?_|refine AH.det (hps) ?_)<;>try simp -implicitDefEqProofs only [BZ hlt,he,AG,h6,go_sem])|fail))
      rw [hres,hno hvf];rfl
     |true=>
     rw [h1,h3,decide_eq_true h2] at hvf
     rw [h1] at hnm
     rw [h3] at hps
     cases hv:vEx 40 q x.body with
     |some r=>
      have hr:=Su _ _ _ _ hv
      rw [hv] at hvf
      have hc:=VXQ.yes hc hv
      have hs:=hyes r hvf
      obtain ⟨nm,ps,o,n,u,ns,ks,al⟩:=x
      simp only [FE.enc,Ex.A2,exA,AF,AI] at he hnm h6 hps hc
      (repeat' (first|refine Run.ct rfl ?_|((first|refine Run.reg mixed ?_|refine Run.AJ ?_|(refine AH.mk rfl hc ?_;rintro _ _ ⟨rfl,rfl⟩)|refine AH.det (hnm) ?_|refine AH.det (hps) ?_)<;>try simp -implicitDefEqProofs only [BZ hlt,he,hw1,AG,h6,go_sem])|fail))
      exact ih (i+1,r) ⟨by simp only;omega,by simp only;omega,hs⟩ (by simp only;omega)
     |none=>
      rw [hv] at hvf
      have hc:=VXQ.no hc hv
      obtain ⟨nm,ps,o,n,u,ns,ks,al⟩:=x
      simp only [FE.enc,Ex.A2,exA,AF,AI] at he hnm h6 hps hc
      (repeat' (first|refine Run.ct rfl ?_|((first|refine Run.reg mixed ?_|refine Run.AJ ?_|(refine AH.mk rfl hc ?_;rintro _ _ ⟨rfl,z,rfl⟩)|(refine Run.Ad DN (σ2:=σ) (FN hj) ?_)|refine AH.det (hnm) ?_|refine AH.det (hps) ?_)<;>try simp -implicitDefEqProofs only [BZ hlt,he,hw1,AG,h6,go_sem])|fail))
      rw [hres,hno hvf];rfl
   · rw [A8 (by omega)] at hok
     (repeat' (first|refine Run.ct rfl ?_|((first|refine Run.reg mixed ?_|refine Run.AJ ?_|(refine Run.Ad DN (σ2:=σ) (FN hj) ?_))<;>try simp -implicitDefEqProofs only [FD hlt,go_sem])|fail))
     rw [hres,hok];rfl
end Go.Ab
namespace Go.Ab
open Go.Proofs
theorem wV:Aw Tryz.prog 82=true:=by kernel_rfl
theorem AB6:Aw Tryz.prog 84=true:=by kernel_rfl
theorem y0:Aw Tryz.prog 80=true:=by kernel_rfl
theorem wW {i:Nat} (j:Nat) {c:CE} (h:Ru c=true):
 WX (fun σ=>σ.blk j=some [.gp i 0]) 82 ([]++[ceA c]++[.gp j 0]) i (fmtC c):=by
 intro σ0 σ s hH0 hb0 hlen
 have hjs:=hH0.1
 have hH:(fun _=>True) σ0∧σ0.gt RT=some T7:=⟨trivial,hH0.2⟩
 obtain ⟨n,l⟩:=c
 simp only [Ru,AN,decide_eq_true_eq,A7] at h
 have hop:=IB (H:=fun _=>True) i (first:=[.gp i 0]) (caps:=[]) AB6 ⟨rfl,rfl⟩ Cz l (fun x hx=>wA i 40 x (h.2 x hx))
 refine PB (by simp) ?_
 show Run _ _ _ (At [_,_]) _ _
 rw [BP]
 rw [fmtC] at hlen ⊢
 simp only [ceA,CE.enc,AF,AI] at hlen ⊢
 (repeat' (first|refine Run.ct rfl ?_|((first|refine Run.reg mixed ?_|refine Run.AJ ?_|(refine AH.mk rfl (A6 n hb0 (by (try simp only [AB,AA,AE] at hlen ⊢);omega)) ?_;rintro _ σ1 ⟨rfl,hb1⟩)|(refine AQ rfl (fun h=>?_) (fun h=>?_)<;>try (cases h;done)))<;>try simp -implicitDefEqProofs only [(hb0.le.blk j _ hjs),go_sem])|(refine ⟨fun h=>?_,fun h=>?_⟩<;>first|(cases h;done)|try simp only [h])|fail))
 try simp -implicitDefEqProofs only [(hb1.le.blk j _ hjs),go_sem]
 (repeat' (first|refine Run.ct rfl ?_|((first|refine Run.reg mixed ?_|refine Run.AJ ?_|(refine AH.mk rfl (hop σ0 σ1 _ hH hb1 (by (try simp only [AB,AA,AE] at hlen ⊢);omega)) ?_;rintro _ σ2 ⟨rfl,hb2⟩)|(refine AQ rfl (fun h=>?_) (fun h=>?_)<;>try (cases h;done)))<;>try simp -implicitDefEqProofs only [(hb1.le.blk j _ hjs),go_sem])|(refine ⟨fun h=>?_,fun h=>?_⟩<;>first|(cases h;done)|try simp only [h])|fail))
 try simp only [AT,A0,A3,A1] at hb2 ⊢
 exact Run.fin If rfl (fun _ _ h=>h) (AM.le_refl _) ⟨rfl,hb2⟩
theorem wY {i:Nat} {d:DE} (h:Gq d=true):WC 42 [.gp i 0,deA d] i (U1 d):=by
 intro σ0 σ s hH hbu hlen
 obtain ⟨n,vs,cs⟩:=d
 simp only [Gq,AN,decide_eq_true_eq,A7] at h
 have hvs:=NQ (H:=fun _=>True) i (first:=[.gp i 0]) (caps:=[]) y0 ⟨rfl,rfl⟩ id vs (fun x _=>y4 i x)
 rw [List.map_id] at hvs
 refine RJ (by simp) ?_
 rw [BP]
 rw [U1] at hlen ⊢
 simp only [deA,DE.enc,AF,AI] at hlen ⊢
 (repeat' (first|refine Run.ct rfl ?_|((first|refine Run.reg mixed ?_|refine Run.AJ ?_|(refine AQ rfl (fun h=>?_) (fun h=>?_)<;>try (cases h;done)))<;>try simp -implicitDefEqProofs only [go_sem])|(refine ⟨fun h=>?_,fun h=>?_⟩<;>first|(cases h;done)|try simp only [h])|fail))
 intro j hj
 have hun:∀s' σ',BuS (σ0.AL j [.gp i 0]) i s' σ'→BuS σ0 i s' σ':=fun s' σ' h=>hbu.oL hj h
 have hjs:(σ0.AL j [.gp i 0]).blk j=some [.gp i 0]:=by simp [AO]
 have hH:(fun _=>True) (σ0.AL j [.gp i 0])∧(σ0.AL j [.gp i 0]).gt RT=some T7:=⟨trivial,hH.2⟩
 have hb0:=hbu.share (cs:=[.gp i 0]) hj
 generalize σ.AL j [.gp i 0]=τ at hb0 ⊢
 generalize σ0.AL j [.gp i 0]=τ0 at hun hjs hH hb0
 have hHj:(fun σ=>σ.blk j=some [.gp i 0]) τ0∧τ0.gt RT=some T7:=⟨hjs,hH.2⟩
 have hsep:=Oa (H:=fun σ=>σ.blk j=some [.gp i 0]) i (first:=[]) (caps:=[.gp j 0]) wV ⟨rfl,rfl⟩ [32,124,32] fmtC cs (fun x hx=>wW j (h.2 x hx))
 have ha1:=DB (a:=[100,97,116,97,32]) (b:=n) (by simp only [AA,AB,AE] at hlen ⊢;omega)
 simp only [A0,A3] at ha1
 (repeat' (first|refine Run.ct rfl ?_|((first|refine Run.reg mixed ?_|refine Run.AJ ?_|(refine AH.mk rfl (A6 _ hb0 (by (try simp only [AB,AA,AE] at hlen ⊢);omega)) ?_;rintro _ σ1 ⟨rfl,hb1⟩)|(refine AQ rfl (fun h=>?_) (fun h=>?_)<;>try (cases h;done)))<;>try simp -implicitDefEqProofs only [ha1,(hb0.le.blk j _ hjs),go_sem])|(refine ⟨fun h=>?_,fun h=>?_⟩<;>first|(cases h;done)|try simp only [h])|fail))
 try simp -implicitDefEqProofs only [(hb1.le.blk j _ hjs),go_sem]
 (repeat' (first|refine Run.ct rfl ?_|((first|refine Run.reg mixed ?_|refine Run.AJ ?_|(refine AH.mk rfl (hvs τ0 σ1 _ hH hb1 (by (try simp only [AB,AA,AE] at hlen ⊢);omega)) ?_;rintro _ σ2 ⟨rfl,hb2⟩)|(refine AQ rfl (fun h=>?_) (fun h=>?_)<;>try (cases h;done)))<;>try simp -implicitDefEqProofs only [ha1,(hb1.le.blk j _ hjs),go_sem])|(refine ⟨fun h=>?_,fun h=>?_⟩<;>first|(cases h;done)|try simp only [h])|fail))
 try simp -implicitDefEqProofs only [(hb2.le.blk j _ hjs),go_sem]
 (repeat' (first|refine Run.ct rfl ?_|((first|refine Run.reg mixed ?_|refine Run.AJ ?_|(refine AH.mk rfl (A6 [32,61,32] hb2 (by (try simp only [AB,AA,AE] at hlen ⊢);omega)) ?_;rintro _ σ3 ⟨rfl,hb3⟩)|(refine AQ rfl (fun h=>?_) (fun h=>?_)<;>try (cases h;done)))<;>try simp -implicitDefEqProofs only [ha1,(hb2.le.blk j _ hjs),go_sem])|(refine ⟨fun h=>?_,fun h=>?_⟩<;>first|(cases h;done)|try simp only [h])|fail))
 try simp -implicitDefEqProofs only [(hb3.le.blk j _ hjs),go_sem]
 (repeat' (first|refine Run.ct rfl ?_|((first|refine Run.reg mixed ?_|refine Run.AJ ?_|(refine AH.mk rfl (hsep τ0 σ3 _ hHj hb3 (by (try simp only [AB,AA,AE] at hlen ⊢);omega)) ?_;rintro _ σ4 ⟨rfl,hb4⟩)|(refine AQ rfl (fun h=>?_) (fun h=>?_)<;>try (cases h;done)))<;>try simp -implicitDefEqProofs only [ha1,(hb3.le.blk j _ hjs),go_sem])|(refine ⟨fun h=>?_,fun h=>?_⟩<;>first|(cases h;done)|try simp only [h])|fail))
 try simp -implicitDefEqProofs only [(hb4.le.blk j _ hjs),go_sem]
 (repeat' (first|refine Run.ct rfl ?_|((first|refine Run.reg mixed ?_|refine Run.AJ ?_|(refine AH.mk rfl (A6 [59,10] hb4 (by (try simp only [AB,AA,AE] at hlen ⊢);omega)) ?_;rintro _ σ5 ⟨rfl,hb5⟩)|(refine AQ rfl (fun h=>?_) (fun h=>?_)<;>try (cases h;done)))<;>try simp -implicitDefEqProofs only [ha1,(hb4.le.blk j _ hjs),go_sem])|(refine ⟨fun h=>?_,fun h=>?_⟩<;>first|(cases h;done)|try simp only [h])|fail))
 try simp only [AT,A0,A3,A1] at hb5 ⊢
 exact Run.fin Jy rfl (fun _ _ h=>h) (AM.le_refl _) ⟨rfl,hun _ _ hb5⟩
theorem cT {α:Type} {f:α→Str} {l:List α} {k:Nat} {x:α} (h:l[k]?=some x):((l.take (k+1)).map f).flatten=((l.take k).map f).flatten++f x:=by
 rw [Fl h];simp
theorem Zf {α:Type} (f:α→Str) (l:List α) (k:Nat):((l.take k).map f).flatten.length≤(l.map f).flatten.length:=by
 have:((l.map f).flatten).length=((l.take k).map f).flatten.length+((l.drop k).map f).flatten.length:=by
  rw [← AA,← MX,← Bp,En]
 omega
set_option maxHeartbeats 4000000 in
theorem W3 (p:Pg) (σ:AM) (hp:σ.gt RT=some T7) (hs:∀d∈p.data,∀c∈d.cons,∀t∈c.args,t.size≤100000):
 AP Tryz.prog 17 [pgA p] σ (fun v σ'=>v= .d (.str (if C0 p then aC p else []))∧σ'=σ):=by
 have hv:=MB p σ (fun d hd c hc t ht=>BD (hs d hd c hc t ht) (by decide))
 refine XJ (by simp) ?_
 rw [Av]
 cases hval:C0 p with
 |false=>
  rw [hval] at hv
  obtain ⟨ds,fs⟩:=p
  simp only [pgA,Pg.enc,AF,AI,AW,if_false] at hv ⊢
  (repeat' (first|refine Run.ct rfl ?_|((first|refine Run.reg mixed ?_|refine Run.AJ ?_|(refine Run.Ad Lh (σ2:=σ) (AM.le_refl _) ?_)|refine AH.det (hv) ?_|(refine AQ rfl (fun h=>?_) (fun h=>?_)<;>try (cases h;done)))<;>try simp -implicitDefEqProofs only [go_sem])|(refine ⟨fun h=>?_,fun h=>?_⟩<;>first|(cases h;done)|try simp only [h])|fail))
 |true=>
 rw [hval] at hv
 have hlen:=xB hval hs
 obtain ⟨⟨hd12,hda⟩,hf24,hfa⟩:=Sw hval
 obtain ⟨ds,fs⟩:=p
 simp only [pgA,Pg.enc,AF,AI,if_true] at hv hd12 hda hf24 hfa ⊢
 rw [aC,AA] at hlen
 simp only at hlen
 (repeat' (first|refine Run.ct rfl ?_|((first|refine Run.reg mixed ?_|refine Run.AJ ?_|(refine XEx.Zo rfl rfl rfl (fun i hi=>?_))|refine AH.det (hv) ?_|(refine AQ rfl (fun h=>?_) (fun h=>?_)<;>try (cases h;done)))<;>try simp -implicitDefEqProofs only [AG,go_sem])|(refine ⟨fun h=>?_,fun h=>?_⟩<;>first|(cases h;done)|try simp only [h])|fail))
 have hbu0:=bJ hi
 have hbk0:((σ.AL i [.Et,.AY]).GG i (2,87)).blk i=some [.Et,.AY]:=by simp [AM.GG,AM.AL]
 generalize (σ.AL i [AV.Et,.AY]).GG i (2,87)=τ0 at hbu0 hbk0 ⊢
 (repeat' (first|refine Run.ct rfl ?_|((first|refine Run.reg mixed ?_|refine Run.AJ ?_|(refine AQ rfl (fun h=>?_) (fun h=>?_)<;>try (cases h;done)))<;>try simp -implicitDefEqProofs only [AG,go_sem])|(refine ⟨fun h=>?_,fun h=>?_⟩<;>first|(cases h;done)|try simp only [h])|fail))
 refine Run.Ba ?_
 refine Run.Bd ((fun (a1:AV) (a3:AV) (a14:AV) (a15:AV)=>fun (y:Nat×List UInt8×AM)=>put 1 a1 (put 3 a3 (put 14 a14 (put 15 a15 (put 16 (.d (.int .i64 y.1)) U))))) _ _ _ _) (fun _=>B8 1 [.d (.sl (ds.map DE.enc)),.d (.sl (fs.map FE.enc))] E) (fun y=>y.2.2)
  (fun y=>y.1≤ds.length∧BuS σ i y.2.1 y.2.2∧y.2.1=((ds.take y.1).map U1).flatten∧(y.2.1=[]→∃p,y.2.2.blk i=some [p,.AY])) (fun y=>ds.length - y.1) ?_ (0,[],τ0) ⟨by simp,hbu0,by simp,fun _=>⟨_,hbk0⟩⟩
 rintro ⟨k,s1,τ⟩ ⟨hk,hb1,hs1,he1⟩ ih
 simp only at hk hb1 hs1 he1
 by_cases hlt:k < ds.length
 · obtain ⟨d,hd⟩:=C7 hlt
   have he:=CR (enc:=DE.enc) hd
   have hw1:IntKind.i64.wrap ((k:Int)+1)=((k+1:Nat):Int):=by rw [BF (by omega) (by omega)];omega
   have hdo:=wY (i:=i) (hda d (Ae hd))
   have htf:=cT (f:=U1) hd
   have hle:=Zf U1 ds (k+1)
   have hne:U1 d≠[]:=by rw [U1];simp
   rw [htf,← hs1,AA] at hle
   have hc:=hdo σ τ s1 ⟨trivial,hp⟩ hb1 (by omega)
   generalize U1 d=x at hc htf hne hle
   obtain ⟨n,vs,cs⟩:=d
   simp only [deA,DE.enc,AF,AI] at he hc
   (repeat' (first|refine Run.ct rfl ?_|((first|refine Run.reg mixed ?_|refine Run.AJ ?_|(refine AH.mk rfl hc ?_;rintro _ σ1 ⟨rfl,hb2⟩)|(refine AQ rfl (fun h=>?_) (fun h=>?_)<;>try (cases h;done)))<;>try simp -implicitDefEqProofs only [BZ hlt,he,hw1,AG,go_sem])|(refine ⟨fun h=>?_,fun h=>?_⟩<;>first|(cases h;done)|try simp only [h])|fail))
   (repeat' (first|refine Run.ct rfl ?_|((first|refine Run.reg mixed ?_|refine Run.AJ ?_|(refine AQ rfl (fun h=>?_) (fun h=>?_)<;>try (cases h;done)))<;>try simp -implicitDefEqProofs only [hw1,go_sem])|(refine ⟨fun h=>?_,fun h=>?_⟩<;>first|(cases h;done)|try simp only [h])|fail))
   exact ih (k+1,_,σ1) ⟨by simp only;omega,hb2,by simp only;rw [htf,hs1],fun h=>absurd (List.append_eq_nil_iff.1 h).2 hne⟩ (by simp only;omega)
 have hke:k=ds.length:=by omega
 rw [hke,List.take_length] at hs1
 (repeat' (first|refine Run.ct rfl ?_|((first|refine Run.reg mixed ?_|refine Run.AJ ?_|(refine AQ rfl (fun h=>?_) (fun h=>?_)<;>try (cases h;done)))<;>try simp -implicitDefEqProofs only [FD hlt,AG,go_sem])|(refine ⟨fun h=>?_,fun h=>?_⟩<;>first|(cases h;done)|try simp only [h])|fail))
 refine Run.Ba ?_
 refine Run.Bd ((fun (a3:AV) (a25:AV) (a26:AV)=>fun (y:Nat×List UInt8×AM)=>put 3 a3 (put 25 a25 (put 26 a26 (put 27 (.d (.int .i64 y.1)) U)))) _ _ _) (fun _=>E) (fun y=>y.2.2)
  (fun y=>y.1≤fs.length∧BuS σ i y.2.1 y.2.2∧y.2.1=(ds.map U1).flatten++((fs.take y.1).map Vx).flatten∧(y.2.1=[]→∃p,y.2.2.blk i=some [p,.AY])) (fun y=>fs.length - y.1) ?_ (0,s1,τ) ⟨by simp,hb1,by simp [hs1],he1⟩
 rintro ⟨q,s2,τ2⟩ ⟨hq,hq1,hs2,he2⟩ ih2
 simp only at hq hq1 hs2 he2
 by_cases hlt2:q < fs.length
 · obtain ⟨d,hd⟩:=C7 hlt2
   have he:=CR (enc:=FE.enc) hd
   have hw1:IntKind.i64.wrap ((q:Int)+1)=((q+1:Nat):Int):=by rw [BF (by omega) (by omega)];omega
   obtain ⟨hhd,hnb,hsz⟩:=hfa d (Ae hd)
   have htf:=cT (f:=Vx) hd
   have hle:=Zf Vx fs (q+1)
   have hne:Vx d≠[]:=by rw [Vx];simp
   rw [htf,AA] at hle
   have hl2:s2.length+(Vx d).length≤10000000000:=by rw [hs2,AA];omega
   have hex:=X9 i d.body hnb 0
   unfold EC at hex
   rw [pl,if_neg (by omega)] at hex
   rw [Vx] at hl2 htf hne
   simp only [NH,AN,decide_eq_true_eq] at hhd
   obtain ⟨n,ps,b⟩:=d
   simp only at hl2 htf hne hex hhd
   generalize Af b=tb at *
   obtain ⟨ob,nb,ub,nsb,ksb,alb⟩:=b
   simp only [exA,FE.enc,Ex.A2,AF,AI,A0,A3] at he hex
   have hlen2:=hl2
   simp only [FC,Fk,cms,AA,AB,AE] at hlen2
   have hjn:=fun σ=>mR ps [44,32] σ (by omega) (by omega)
   have ha1:=DB (a:=[102,117,110,32]) (b:=n) (by simp only [AA,AB,AE];omega)
   have ha2:=DB (a:=[102,117,110,32]++n) (b:=[40]) (by simp only [AA,AB,AE];omega)
   have ha3:=DB (a:=[102,117,110,32]++n++[40]) (b:=Lib.join ps [44,32]) (by simp only [AA,AB,AE];omega)
   have ha4:=DB (a:=[102,117,110,32]++n++[40]++Lib.join ps [44,32]) (b:=[41,32,61,32]) (by simp only [AA,AB,AE];omega)
   simp only [A0,A3] at ha1 ha2 ha3 ha4
   (repeat' (first|refine Run.ct rfl ?_|((first|refine Run.reg mixed ?_|refine Run.AJ ?_|(refine AH.mk rfl (A6 _ hq1 (by simp only [AA,AB,AE];omega)) ?_;rintro _ σ1 ⟨rfl,hb2⟩)|refine AH.det (hjn _) ?_|(refine AQ rfl (fun h=>?_) (fun h=>?_)<;>try (cases h;done)))<;>try simp -implicitDefEqProofs only [BZ hlt2,he,hw1,ha1,ha2,ha3,ha4,AG,go_sem])|(refine ⟨fun h=>?_,fun h=>?_⟩<;>first|(cases h;done)|try simp only [h])|fail))
   (repeat' (first|refine Run.ct rfl ?_|((first|refine Run.reg mixed ?_|refine Run.AJ ?_|(refine AH.mk rfl (hex σ σ1 _ ⟨trivial,hp⟩ hb2 (by simp only [AA,AB,AE];omega)) ?_;rintro _ σ2 ⟨rfl,hb3⟩)|(refine AQ rfl (fun h=>?_) (fun h=>?_)<;>try (cases h;done)))<;>try simp -implicitDefEqProofs only [hw1,go_sem])|(refine ⟨fun h=>?_,fun h=>?_⟩<;>first|(cases h;done)|try simp only [h])|fail))
   (repeat' (first|refine Run.ct rfl ?_|((first|refine Run.reg mixed ?_|refine Run.AJ ?_|(refine AH.mk rfl (A6 _ hb3 (by simp only [AA,AB,AE];omega)) ?_;rintro _ σ3 ⟨rfl,hb4⟩)|(refine AQ rfl (fun h=>?_) (fun h=>?_)<;>try (cases h;done)))<;>try simp -implicitDefEqProofs only [hw1,go_sem])|(refine ⟨fun h=>?_,fun h=>?_⟩<;>first|(cases h;done)|try simp only [h])|fail))
   (repeat' (first|refine Run.ct rfl ?_|((first|refine Run.reg mixed ?_|refine Run.AJ ?_|(refine AQ rfl (fun h=>?_) (fun h=>?_)<;>try (cases h;done)))<;>try simp -implicitDefEqProofs only [hw1,go_sem])|(refine ⟨fun h=>?_,fun h=>?_⟩<;>first|(cases h;done)|try simp only [h])|fail))
   refine ih2 (q+1,_,σ3) ⟨by simp only;omega,hb4,?_,fun h=>?_⟩ (by simp only;omega)
   · simp only
     rw [htf,hs2]
     simp [FC,Fk,cms]
   · simp at h
 have hqe:q=fs.length:=by omega
 rw [hqe,List.take_length] at hs2
 have hst:=a8 hq1 he2
 (repeat' (first|refine Run.ct rfl ?_|((first|refine Run.reg mixed ?_|refine Run.AJ ?_|(refine AH.mk rfl hst ?_;rintro _ σ1 ⟨rfl,hle1⟩)|(refine Run.Ad Lh (σ2:=σ) hle1 ?_)|(refine AQ rfl (fun h=>?_) (fun h=>?_)<;>try (cases h;done)))<;>try simp -implicitDefEqProofs only [FD hlt2,AG,go_sem])|(refine ⟨fun h=>?_,fun h=>?_⟩<;>first|(cases h;done)|try simp only [h])|fail))
 rw [hs2];rfl
def Vw (e:Ex):Pg:=⟨[],[⟨[102],[],e⟩]⟩
theorem AA2 (n:Nat):Lib.decDigits n≠[]:=by
 unfold Lib.decDigits
 split<;>simp
theorem xA:∀ {e:Ex},e.nb→Af e≠[]
 | .mk o n u ns ks al,h=>by
  rw [Ex.nb] at h
  have hn:=h.1
  simp only [Fi,AN] at hn
  obtain ⟨⟨⟨⟨hnm,hnu⟩,hns⟩,has⟩,hnk⟩:=hn
  rw [Af,H3,Mj]
  rcases cB hnk with rfl|rfl|rfl|rfl|rfl|rfl|rfl|rfl|rfl|rfl|rfl|rfl|rfl|rfl|rfl|rfl|rfl
  · show [40,41]≠[]
    decide
  · show (if u=1 then [116,114,117,101] else [102,97,108,115,101])≠[]
    split<;>decide
  · show Lib.itoa u≠[]
    unfold Lib.itoa
    split
    · simp
    · exact AA2 _
  · obtain ⟨b,r,rfl,_⟩:=V3 (s:=n) (by simpa [nmB] using hnm)
    show (b::r)++_≠[]
    simp
  · show FC _≠[]
    simp [FC,Fk]
  · obtain ⟨b,r,rfl,_⟩:=TP (s:=n) (by simpa [nmB] using hnm)
    show (b::r)++_≠[]
    simp
  · show [108,101,116,32]++_≠[]
    simp
  · show [108,101,116,32]++_≠[]
    simp
  · show [105,102,32]++_≠[]
    simp
  · show [109,97,116,99,104,32]++_≠[]
    simp
  · show [102,110]++_≠[]
    simp
  · obtain ⟨f,l,rfl⟩:∃f l,ks=f::l:=by
     cases ks with
     |nil=>simp [nkB] at hnk
     |cons f l=>exact ⟨f,l,rfl⟩
    show _++FC _≠[]
    simp [FC,Fk]
  · obtain ⟨a,b,rfl⟩:=OZ (by simpa [nkB] using hnk)
    show _++(32::_)≠[]
    simp
  · show prT u++FC _≠[]
    simp [FC,Fk]
  · show [116,105,99,107]++_≠[]
    simp
  · show [114,97,105,115,101]++_≠[]
    simp
  · show [116,114,121,32]++_≠[]
    simp
theorem nD {e:Ex} (h:C0 (Vw e)=true):e.nb∧e.size≤600:=((Sw h).2.2 ⟨[102],[],e⟩ (by simp [Vw])).2
theorem Sn (e:Ex) (σ:AM) (hp:σ.gt RT=some T7):
 AP Tryz.prog 23 [exA e] σ (fun v σ'=>v= .d (.str (if C0 (Vw e) then Af e else []))∧σ'=σ):=by
 have hv:=MB (Vw e) σ (fun d hd=>by cases hd)
 refine TX (by simp) ?_
 rw [Av]
 cases hval:C0 (Vw e) with
 |false=>
  rw [hval] at hv
  obtain ⟨ob,nb,ub,nsb,ksb,alb⟩:=e
  simp only [Vw,pgA,Pg.enc,FE.enc,exA,Ex.A2,AF,AI,AW,if_false,A0,A3] at hv ⊢
  have hv':=AP.plain (P:=Tryz.prog) (f:=19) (args:=[.agg [.AY,.d (.sl [[.str [102],.sl [],.int .i64 ob,.str nb,.int .i64 ub,.sl (nsb.map B0),.sl (ksb.map Ex.enc),.sl (alb.map Al.enc)]])]]) (by simp only [AV.Dt,KZ,I0,QV];exact hv)
  (repeat' (first|refine Run.ct rfl ?_|((first|refine Run.reg mixed ?_|refine Run.AJ ?_|(refine Run.Ad Hi (σ2:=σ) (AM.le_refl _) ?_)|refine AH.det (hv') ?_|(refine AQ rfl (fun h=>?_) (fun h=>?_)<;>try (cases h;done)))<;>try simp -implicitDefEqProofs only [go_sem])|(refine ⟨fun h=>?_,fun h=>?_⟩<;>first|(cases h;done)|try simp only [h])|fail))
 |true=>
  rw [hval] at hv
  obtain ⟨hnb,hsz⟩:=nD hval
  have hne:=xA hnb
  have hl:=VW e hnb
  have hex:=fun i=>X9 i e hnb 0
  unfold EC at hex
  simp only [pl,Nat.not_lt_zero,if_false] at hex
  generalize Af e=tb at hex hne hl ⊢
  obtain ⟨ob,nb,ub,nsb,ksb,alb⟩:=e
  simp only [Vw,pgA,Pg.enc,FE.enc,exA,Ex.A2,AF,AI,if_true,A0,A3] at hv hex ⊢
  have hv':=AP.plain (P:=Tryz.prog) (f:=19) (args:=[.agg [.AY,.d (.sl [[.str [102],.sl [],.int .i64 ob,.str nb,.int .i64 ub,.sl (nsb.map B0),.sl (ksb.map Ex.enc),.sl (alb.map Al.enc)]])]]) (by simp only [AV.Dt,KZ,I0,QV];exact hv)
  (repeat' (first|refine Run.ct rfl ?_|((first|refine Run.reg mixed ?_|refine Run.AJ ?_|(refine XEx.Zo rfl rfl rfl (fun i hi=>?_))|refine AH.det (hv') ?_|(refine AQ rfl (fun h=>?_) (fun h=>?_)<;>try (cases h;done)))<;>try simp -implicitDefEqProofs only [go_sem])|(refine ⟨fun h=>?_,fun h=>?_⟩<;>first|(cases h;done)|try simp only [h])|fail))
  have hbu0:=bJ hi
  generalize (σ.AL i [AV.Et,.AY]).GG i (2,87)=τ0 at hbu0 ⊢
  (repeat' (first|refine Run.ct rfl ?_|((first|refine Run.reg mixed ?_|refine Run.AJ ?_|(refine AH.mk rfl (hex i σ τ0 _ ⟨trivial,hp⟩ hbu0 (by simp only [AE];omega)) ?_;rintro _ σ2 ⟨rfl,hb3⟩)|(refine AQ rfl (fun h=>?_) (fun h=>?_)<;>try (cases h;done)))<;>try simp -implicitDefEqProofs only [go_sem])|(refine ⟨fun h=>?_,fun h=>?_⟩<;>first|(cases h;done)|try simp only [h])|fail))
  have hst:=a8 hb3 (fun h=>absurd h hne)
  (repeat' (first|refine Run.ct rfl ?_|((first|refine Run.reg mixed ?_|refine Run.AJ ?_|(refine AH.mk rfl hst ?_;rintro _ σ1 ⟨rfl,hle1⟩)|(refine Run.Ad Hi (σ2:=σ) hle1 ?_)|(refine AQ rfl (fun h=>?_) (fun h=>?_)<;>try (cases h;done)))<;>try simp -implicitDefEqProofs only [go_sem])|(refine ⟨fun h=>?_,fun h=>?_⟩<;>first|(cases h;done)|try simp only [h])|fail))
end Go.Ab
