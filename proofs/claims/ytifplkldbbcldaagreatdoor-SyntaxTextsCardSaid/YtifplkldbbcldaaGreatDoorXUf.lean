/- Valid expressions. Valid expressions, as the reference looks at them. Valid expressions, as the reference looks at them: the nodes. Valid programs. The printer: declarations, programs. Conditions: none. -/
import Derived.Test.YtifplkldbbcldaaGreatDoorXRh
set_option linter.unusedSimpArgs false
set_option linter.unusedVariables false
set_option maxRecDepth 4000
set_option maxHeartbeats 8000000
open List renaming take_append_drop→Fs,mem_cons_of_mem→Ae,mem_cons_self→A9,map_cons→AE,map_nil→AH,length_map→AI,take_of_length_le→Aq,mem_of_getElem?→Ai,all_eq_true→A4,length_cons→AD,length_append→AA,length_nil→AF,append_assoc→AS,cons_append→AX,nil_append→A6,append_nil→A1,flatten_append→LL,map_append→Bc
open Option renaming bind_eq_bind→AR,bind_eq_some_iff→AB,bind_some→BZ
open Nat renaming le_refl→A7,le_trans→At
open Bool renaming eq_iff_iff→IA,and_eq_true→AK,true_and→Ch,false_eq_true→AY
namespace Go.Ab
open Go.Proofs
section
variable {α β:Type}
theorem S2 {f:β→α→Option β} {l:List α} {i:Nat} {x:α} {a b:β} (h:(l.take i).foldlM f a=some b) (hx:l[i]?=some x):(l.take (i+1)).foldlM f a=f b x:=by
 rw [La hx,List.foldlM_append,h]
 simp [List.foldlM]
theorem S1 {f:β→α→Option β} {l:List α} {i:Nat} {x:α} {a b:β} (h:(l.take i).foldlM f a=some b) (hx:l[i]?=some x) (hn:f b x=none):l.foldlM f a=none:=by
 conv=>lhs;rw [← Fs i l]
 rw [List.foldlM_append,h,IU hx]
 simp [List.foldlM,hn]
theorem Vj {f:Nat→α→Option Nat}:∀(l:List α) (a b:Nat),(∀x∈l,∀a b,f a x=some b→b≤a)→l.foldlM f a=some b→b≤a
 |[],a,b,_,h=>by simp [List.foldlM] at h;omega
 |x::l,a,b,hf,h=>by
  simp only [List.foldlM,AR,AB] at h
  obtain ⟨c,hc,h⟩:=h
  have:=Vj l c b (fun y hy=>hf y (Ae _ hy)) h
  have:=hf x (A9 ..) a c hc
  omega
end
theorem Wp:∀(d q:Nat) (e:Ex) (r:Nat),vEx d q e=some r→r≤q
 |0,q,e,r,h=>by cases h
 |d+1,0,.mk ..,r,h=>by cases h
 |d+1,q+1,.mk o n u ns ks al,r,h=>by
  simp only [vEx] at h
  split at h
  · simp only [AB] at h
    obtain ⟨c,hc,h⟩:=h
    have h1:=Vj ks q c (fun x _ a b hab=>Wp d a x b hab) hc
    have h2:=Vj al c r (fun x _ a b hab=>by cases x;exact Wp d a _ b hab) h
    omega
  · cases h
def VXQ (enc:Nat→Int) (j d q:Nat) (e:Ex) (σ:AN) (v:AV) (σ':AN):Prop:=
 ∃b z,v= .d (.bool b)∧σ'=σ.AL j [.d (.int .i64 z)]∧b=(vEx d q e).isSome∧∀r,vEx d q e=some r→z=enc r
theorem VXQ.yes {enc:Nat→Int} {j d q:Nat} {e:Ex} {σ:AN} {P:Program} {f:FuncId} {args:List AV} {r:Nat} (h:AT P f args σ (VXQ enc j d q e σ)) (hr:vEx d q e=some r):AT P f args σ (fun v σ'=>v= .d (.bool true)∧σ'=σ.AL j [.d (.int .i64 (enc r))]):=
 h.mono (by
  rintro v σ' ⟨b,z,rfl,rfl,rfl,h⟩
  rw [h r hr,hr];exact ⟨rfl,rfl⟩)
theorem VXQ.no {enc:Nat→Int} {j d q:Nat} {e:Ex} {σ:AN} {P:Program} {f:FuncId} {args:List AV} (h:AT P f args σ (VXQ enc j d q e σ)) (hr:vEx d q e=none):AT P f args σ (fun v σ'=>v= .d (.bool false)∧∃z,σ'=σ.AL j [.d (.int .i64 z)]):=
 h.mono (by
  rintro v σ' ⟨b,z,rfl,rfl,rfl,h⟩
  rw [hr];exact ⟨rfl,z,rfl⟩)
def fK (d:Nat):Nat→Ex→Option Nat:=fun q e=>vEx d q e
def fA (d:Nat):Nat→Al→Option Nat:=fun q a=>match a with| .mk _ _ b=>vEx d q b
theorem Wq (d q:Nat) (o:Int) (n:Str) (u:Int) (ns:List Str) (ks:List Ex) (al:List Al):vEx (d+1) (q+1) (.mk o n u ns ks al)=if G5 o n u ns ks.length al then (ks.foldlM (fK d) q).bind fun q=>al.foldlM (fA d) q else none:=rfl
def LP (r:Nat):Int:=((600 - r:Nat):Int)
set_option maxHeartbeats 4000000 in
theorem Uo (j:Nat):∀(d q:Nat),d≤40→q≤600→∀(e:Ex) (σ:AN),σ.blk j=some [.d (.int .i64 (LP q))]→
 AT Tryz.prog 53 [.gp j 0,exA e,.d (.int .i64 ((41 - d:Nat):Int))] σ (VXQ LP j d q e σ):=by
 intro d
 induction d with
 |zero=>
  intro q _ hq e σ hj
  obtain ⟨o,n,u,ns,ks,al⟩:=e
  refine JM (by simp) ?_
  rw [ID,exA,Ex.A3]
  have hw:IntKind.i64.wrap (LP q+1)=((601 - q:Nat):Int):=by rw [LP,BL (by omega) (by omega)];omega
  have h4:decide ((40:Int) < ((41 - 0:Nat):Int))=true:=by decide
  (repeat' (first|refine Run.ct rfl ?_|((first|refine Run.reg mixed ?_|refine Run.AM ?_|refine Run.Ia Br (AN.le_refl _) ?_|(refine AQ rfl (fun h=>?_) (fun h=>?_)<;>try (cases h;done)))<;>try simp -implicitDefEqProofs only [hj,hw,h4,go_sem])|fail))
  all_goals exact ⟨false,_,rfl,rfl,rfl,fun r h=>by cases h⟩
 |succ d ihd=>
  intro q hd hq e σ hj
  obtain ⟨o,n,u,ns,ks,al⟩:=e
  refine JM (by simp) ?_
  rw [ID,exA,Ex.A3]
  cases q with
  |zero=>
   have hw:IntKind.i64.wrap (LP 0+1)=601:=by decide
   have h6:decide ((600:Int) < 601)=true:=by decide
   (repeat' (first|refine Run.ct rfl ?_|((first|refine Run.reg mixed ?_|refine Run.AM ?_|refine Run.Ia Br (AN.le_refl _) ?_)<;>try simp -implicitDefEqProofs only [hj,hw,h6,go_sem])|fail))
   exact ⟨false,_,rfl,rfl,rfl,fun r h=>by cases h⟩
  |succ q=>
  have hw:IntKind.i64.wrap (LP (q+1)+1)=LP q:=by
   have e:LP (q+1)+1=LP q:=by simp only [LP];omega
   rw [e];exact BL (by simp only [LP];omega) (by simp only [LP];omega)
  have h6:decide ((600:Int) < LP q)=false:=decide_eq_false (Int.not_lt.2 (by unfold LP;omega))
  have h4:decide ((40:Int) < ((41 - (d+1):Nat):Int))=false:=by simp only [decide_eq_false_iff_not];omega
  have hnode:=Yz o n u ns ks al
  simp only [exA,Ex.A3,AE,AH] at hnode
  have hw2:IntKind.i64.wrap (((41 - (d+1):Nat):Int)+1)=((41 - d:Nat):Int):=by
   have e:((41 - (d+1):Nat):Int)+1=((41 - d:Nat):Int):=by omega
   rw [e];exact BL (by omega) (by omega)
  cases hn:G5 o n u ns ks.length al with
  |false=>
   rw [hn] at hnode
   (repeat' (first|refine Run.ct rfl ?_|((first|refine Run.reg mixed ?_|refine Run.AM ?_|refine Run.Ia Br (AN.le_refl _) ?_|refine AG.det (hnode _) ?_)<;>try simp -implicitDefEqProofs only [hj,hw,h6,h4,go_sem])|fail))
   exact ⟨false,_,rfl,rfl,by rw [Wq,if_neg (by simp [hn])];rfl,fun r h=>by rw [Wq,if_neg (by simp [hn])] at h;cases h⟩
  |true=>
  rw [hn] at hnode
  have hres:vEx (d+1) (q+1) (.mk o n u ns ks al)=(ks.foldlM (fK d) q).bind fun q=>al.foldlM (fA d) q:=by rw [Wq,if_pos hn]
  generalize hV:VXQ LP j (d+1) (q+1) (.mk o n u ns ks al) σ=V
  have hno:∀z,vEx (d+1) (q+1) (.mk o n u ns ks al)=none→V (.d (.bool false)) (σ.AL j [.d (.int .i64 z)]):=fun z h=>by
   rw [← hV];exact ⟨false,z,rfl,rfl,by rw [h];rfl,fun r hr=>by rw [h] at hr;cases hr⟩
  have hyes:∀r,vEx (d+1) (q+1) (.mk o n u ns ks al)=some r→V (.d (.bool true)) (σ.AL j [.d (.int .i64 (LP r))]):=fun z h=>by
   rw [← hV];exact ⟨true,_,rfl,rfl,by rw [h];rfl,fun r hr=>by rw [h] at hr;cases hr;rfl⟩
  clear hV
  (repeat' (first|refine Run.ct rfl ?_|((first|refine Run.reg mixed ?_|refine Run.AM ?_|refine AG.det (hnode _) ?_)<;>try simp -implicitDefEqProofs only [hj,hw,h6,h4,AI,go_sem])|fail))
  refine Run.cell 4 4 rfl rfl (fun hb4=>?_)
  refine Run.cell 4 5 rfl rfl (fun hb5=>?_)
  simp only [AV.FI,AI] at hb4 hb5
  refine Run.Cm ?_
  refine Run.Cn ((fun (a0:AV) (a2:AV) (a4:AV) (a33:AV) (a34:AV)=>fun (y:Nat×Nat)=>put 0 a0 (put 2 a2 (put 4 a4 (put 33 a33 (put 34 a34 (put 35 (.d (.int .i64 y.1)) U)))))) _ _ _ _ _) (fun _=>Bd 4 [.d (.int .i64 o),.d (.str n),.d (.int .i64 u),.d (.sl (ns.map Et)),.d (.sl (ks.map Ex.enc)),.d (.sl (al.map Al.enc))] E) (fun y=>σ.AL j [.d (.int .i64 (LP y.2))])
   (fun y=>y.1≤ks.length∧y.2≤q∧(ks.take y.1).foldlM (fK d) q=some y.2) (fun y=>ks.length - y.1) ?_ (0,q) ⟨by simp,A7 _,rfl⟩
  rintro ⟨i,p⟩ ⟨hi,hp,hok⟩ ih
  simp only at hi hp hok
  by_cases hlt:i < ks.length
  · obtain ⟨x,hx⟩:=D1 hlt
    have he:=C0 (enc:=Ex.enc) hx
    have hw1:IntKind.i64.wrap ((i:Int)+1)=((i+1:Nat):Int):=by rw [BL (by omega) (by omega)];omega
    have hc:=ihd p (by omega) (by omega) x (σ.AL j [.d (.int .i64 (LP p))]) (by simp only [AO,if_true])
    cases hv:vEx d p x with
    |some r=>
     have hr:=Wp _ _ _ _ hv
     have hc:=VXQ.yes hc hv
     have hs:=S2 hok hx
     obtain ⟨xo,xn,xu,xs,xk,xa⟩:=x
     simp only [Ex.A3,exA,AE,AH] at he hc
     (repeat' (first|refine Run.ct rfl ?_|((first|refine Run.reg mixed ?_|refine Run.AM ?_|(refine AG.mk rfl hc ?_;rintro _ _ ⟨rfl,rfl⟩))<;>try simp -implicitDefEqProofs only [Ca hlt,he,hw1,hw2,go_sem])|fail))
     exact ih (i+1,r) ⟨by simp only;omega,by simp only;omega,by simp only;rw [hs];exact hv⟩ (by simp only;omega)
    |none=>
     have hc:=VXQ.no hc hv
     have hs:=S1 hok hx hv
     obtain ⟨xo,xn,xu,xs,xk,xa⟩:=x
     simp only [Ex.A3,exA,AE,AH] at he hc
     (repeat' (first|refine Run.ct rfl ?_|((first|refine Run.reg mixed ?_|refine Run.AM ?_|refine Run.Ia Br (AN.le_refl _) ?_|(refine AG.mk rfl hc ?_;rintro _ _ ⟨rfl,z,rfl⟩))<;>try simp -implicitDefEqProofs only [Ca hlt,he,hw1,hw2,go_sem])|fail))
     exact hno z (by rw [hres,hs];rfl)
  · rw [Aq (by omega)] at hok
    rw [hok,BZ] at hres
    clear ih
    (repeat' (first|refine Run.ct rfl ?_|((first|refine Run.reg mixed ?_|refine Run.AM ?_)<;>try simp -implicitDefEqProofs only [JZ hlt,AI,go_sem])|fail))
    refine Run.Cm ?_
    refine Run.Cn ((fun (a0:AV) (a2:AV) (a47:AV) (a48:AV)=>fun (y:Nat×Nat)=>put 0 a0 (put 2 a2 (put 47 a47 (put 48 a48 (put 49 (.d (.int .i64 y.1)) U))))) _ _ _ _) (fun _=>E) (fun y=>σ.AL j [.d (.int .i64 (LP y.2))])
     (fun y=>y.1≤al.length∧y.2≤q∧(al.take y.1).foldlM (fA d) p=some y.2) (fun y=>al.length - y.1) ?_ (0,p) ⟨by simp,hp,rfl⟩
    rintro ⟨i,p⟩ ⟨hi,hp,hok⟩ ih
    simp only at hi hp hok
    by_cases hlt:i < al.length
    · obtain ⟨x,hx⟩:=D1 hlt
      have he:=C0 (enc:=Al.enc) hx
      have hw1:IntKind.i64.wrap ((i:Int)+1)=((i+1:Nat):Int):=by rw [BL (by omega) (by omega)];omega
      obtain ⟨xc,xv,x⟩:=x
      have hc:=ihd p (by omega) (by omega) x (σ.AL j [.d (.int .i64 (LP p))]) (by simp only [AO,if_true])
      cases hv:vEx d p x with
      |some r=>
       have hr:=Wp _ _ _ _ hv
       have hc:=VXQ.yes hc hv
       have hs:=S2 hok hx
       obtain ⟨xo,xn,xu,xs,xk,xa⟩:=x
       simp only [Al.A3,Ex.A3,exA,AE,AH] at he hc
       (repeat' (first|refine Run.ct rfl ?_|((first|refine Run.reg mixed ?_|refine Run.AM ?_|(refine AG.mk rfl hc ?_;rintro _ _ ⟨rfl,rfl⟩))<;>try simp -implicitDefEqProofs only [Ca hlt,he,hw1,hw2,go_sem])|fail))
       exact ih (i+1,r) ⟨by simp only;omega,by simp only;omega,by simp only;rw [hs];exact hv⟩ (by simp only;omega)
      |none=>
       have hc:=VXQ.no hc hv
       have hs:=S1 hok hx hv
       obtain ⟨xo,xn,xu,xs,xk,xa⟩:=x
       simp only [Al.A3,Ex.A3,exA,AE,AH] at he hc
       (repeat' (first|refine Run.ct rfl ?_|((first|refine Run.reg mixed ?_|refine Run.AM ?_|refine Run.Ia Br (AN.le_refl _) ?_|(refine AG.mk rfl hc ?_;rintro _ _ ⟨rfl,z,rfl⟩))<;>try simp -implicitDefEqProofs only [Ca hlt,he,hw1,hw2,go_sem])|fail))
       exact hno z (by rw [hres,hs])
    · rw [Aq (by omega)] at hok
      (repeat' (first|refine Run.ct rfl ?_|((first|refine Run.reg mixed ?_|refine Run.AM ?_|refine Run.Ia Br (AN.le_refl _) ?_)<;>try simp -implicitDefEqProofs only [JZ hlt,go_sem])|fail))
      exact hyes p (by rw [hres,hok])
end Go.Ab
namespace Go.Ab
open Go.Proofs
end Go.Ab
namespace Go.Ab
open Go.Proofs
end Go.Ab
namespace Go.Ab
open Go.Proofs
def e5 (c:CE):Prop:=∀t∈c.args,t.size≤1000000
def fB (d:DE):Prop:=∀c∈d.cons,e5 c
theorem sB {b c:Bool} (h:b=true↔c=true):AV.d (.bool b)=AV.d (.bool c):=by rw [IA.2 h]
theorem U1 (t:TE) (σ:AN) (h:t.size≤1000000):AT Tryz.prog 105 [teA t] σ (fun v σ'=>v= .d (.bool (D3 40 t))∧σ'=σ):=by
 refine O4 (by simp) ?_
 rw [BM]
 have hc:=Rg 40 (A7 _) t σ h
 rw [show ((41 - 40:Nat):Int)=1 from rfl] at hc
 obtain ⟨k,n,l⟩:=t
 simp only [TE.A3,teA,AE,AH] at hc ⊢
 (repeat' (first|refine Run.ct rfl ?_|((first|refine Run.reg mixed ?_|refine Run.AM ?_|refine Run.Af I2 (AN.le_refl _) ?_|refine AG.det (hc) ?_)<;>try simp -implicitDefEqProofs only [go_sem])|fail))
theorem Ws (c:CE) (σ:AN) (h:e5 c):AT Tryz.prog 103 [ceA c] σ (fun v σ'=>v= .d (.bool (To c))∧σ'=σ):=by
 refine QW (by simp) ?_
 rw [BM]
 have ha:=Kp (fid:=105) (caps:=[]) (by kernel_rfl) rfl (D3 40) c.args σ (fun t ht σ1 _=>U1 t σ1 (h t ht))
 obtain ⟨nm,ar⟩:=c
 simp only [CE.enc,ceA,AE,AH] at ha ⊢
 have h6:decide ((ar.length:Int)≤6)=decide (ar.length≤6):=leN _ 6
 (repeat' (first|refine Run.ct rfl ?_|(refine nM (by first|exact GV.t|exact GV.f|exact GV.st|exact GV.sf) ⟨?_,fun h=>?_,?_⟩;rotate_left;(focus ((try simp only [AK,Bool.not_not] at h);simp -implicitDefEqProofs only [AI,h6,go_sem];first|exact Is.mk|exact Is.pv (by simp -implicitDefEqProofs only [h,eZ,↓UI,↓Xs,↓UJ,AI,h6,go_sem];rfl)|(refine AG.det (BY nm _) ?_;exact Is.mk)|(refine AG.det (ha) ?_;exact Is.mk)|(refine AG.kL (by simp only [h,eZ];rfl) ?_;first|(refine AG.det (BY nm _) ?_;exact Is.mk)|(refine AG.det (ha) ?_;exact Is.mk))));(try simp -implicitDefEqProofs only [VQ,Yl,Ym,↓UI,↓Xs,↓UJ,AI,h6,JP,go_sem]))|((first|refine Run.reg mixed ?_|refine Run.AM ?_|refine Run.Af KF (AN.le_refl _) ?_|refine AG.det (BY nm _) ?_|refine AG.det (ha) ?_)<;>try simp -implicitDefEqProofs only [VQ,Yl,Ym,↓UI,↓Xs,↓UJ,AI,h6,go_sem])|fail))
 simp only [To]
theorem Yx (d:DE) (σ:AN) (h:fB d):AT Tryz.prog 50 [deA d] σ (fun v σ'=>v= .d (.bool (IT d))∧σ'=σ):=by
 refine S5 (by simp) ?_
 rw [BM]
 have ha:=Gx (fid:=51) (caps:=[]) (by kernel_rfl) rfl Gr d.vars σ (fun x _ σ1 _=>DZ x σ1)
 have hc:=SO (fid:=103) (caps:=[]) (by kernel_rfl) rfl To d.cons σ (fun c hc σ1 _=>Ws c σ1 (h c hc))
 obtain ⟨nm,vs,cs⟩:=d
 simp only [DE.enc,deA,AE,AH] at ha hc ⊢
 have h6:decide ((6:Int) < (vs.length:Int))=!decide (vs.length≤6):=gtN _ 6
 have h8:decide ((8:Int) < (cs.length:Int))=!decide (cs.length≤8):=gtN _ 8
 have h1:decide ((cs.length:Int) < 1)=decide (cs.length < 1):=ltN _ 1
 (repeat' (first|refine Run.ct rfl ?_|(refine nM (by first|exact GV.t|exact GV.f|exact GV.st|exact GV.sf) ⟨?_,fun h=>?_,?_⟩;rotate_left;(focus ((try simp only [AK,Bool.not_not] at h);simp -implicitDefEqProofs only [AI,h6,h8,h1,go_sem];first|exact Is.mk|exact Is.pv (by simp -implicitDefEqProofs only [h,eZ,↓UI,↓Xs,↓UJ,AI,h6,h8,h1,go_sem];rfl)|(refine AG.det (BY nm _) ?_;exact Is.mk)|(refine AG.det (ha) ?_;exact Is.mk)|(refine AG.det (hc) ?_;exact Is.mk)|(refine AG.kL (by simp only [h,eZ];rfl) ?_;first|(refine AG.det (BY nm _) ?_;exact Is.mk)|(refine AG.det (ha) ?_;exact Is.mk)|(refine AG.det (hc) ?_;exact Is.mk))));(try simp -implicitDefEqProofs only [VQ,Yl,Ym,↓UI,↓Xs,↓UJ,AI,h6,h8,h1,LH,go_sem]))|((first|refine Run.reg mixed ?_|refine Run.AM ?_|refine Run.Af Lt (AN.le_refl _) ?_|refine AG.det (BY nm _) ?_|refine AG.det (ha) ?_|refine AG.det (hc) ?_)<;>try simp -implicitDefEqProofs only [VQ,Yl,Ym,↓UI,↓Xs,↓UJ,AI,h6,h8,h1,go_sem])|(refine ⟨fun h=>?_,fun h=>?_⟩<;>first|(cases h;done)|try simp only [h])|fail))
 all_goals (refine sB ?_;simp [IT] at *;try grind)
set_option maxHeartbeats 4000000 in
theorem Kn (p:Pg) (σ:AN) (h:∀d∈p.data,fB d):AT Tryz.prog 19 [pgA p] σ (fun v σ'=>v= .d (.bool (EW p))∧σ'=σ):=by
 obtain ⟨ds,fs⟩:=p
 refine Vp (by simp) ?_
 rw [BM,pgA]
 simp only [Pg.enc,AE,AH] at h ⊢
 have h12:decide ((12:Int) < (ds.length:Int))=!decide (ds.length≤12):=gtN _ 12
 have h24:decide ((24:Int) < (fs.length:Int))=!decide (fs.length≤24):=gtN _ 24
 by_cases hd:ds.length≤12
 case neg=>
  (repeat' (first|refine Run.ct rfl ?_|((first|refine Run.reg mixed ?_|refine Run.AM ?_|refine Run.Af Cl (AN.le_refl _) ?_)<;>try simp -implicitDefEqProofs only [AI,h12,decide_eq_false hd,go_sem])|fail))
  simp [EW,hd]
 by_cases hf:fs.length≤24
 case neg=>
  (repeat' (first|refine Run.ct rfl ?_|((first|refine Run.reg mixed ?_|refine Run.AM ?_|refine Run.Af Cl (AN.le_refl _) ?_)<;>try simp -implicitDefEqProofs only [AI,h12,decide_eq_true hd,h24,decide_eq_false hf,go_sem])|fail))
  simp [EW,hf]
 have hres:EW ⟨ds,fs⟩=(ds.all IT&&(fs.foldlM Wr 600).isSome):=by simp [EW,hd,hf]
 (repeat' (first|refine Run.ct rfl ?_|((first|refine Run.reg mixed ?_|refine Run.AM ?_)<;>try simp -implicitDefEqProofs only [AI,h12,decide_eq_true hd,h24,decide_eq_true hf,go_sem])|fail))
 refine Run.Cm ?_
 refine Run.Cn ((fun (a1:AV) (a19:AV) (a20:AV)=>fun (i:Nat)=>put 1 a1 (put 19 a19 (put 20 a20 (put 21 (.d (.int .i64 i)) U)))) _ _ _) (fun _=>Bd 1 [.d (.sl (ds.map DE.enc)),.d (.sl (fs.map FE.enc))] E) (fun _=>σ) (fun i=>i≤ds.length∧(ds.take i).all IT=true) (fun i=>ds.length - i) ?_ 0 ⟨by simp,by simp⟩
 rintro i ⟨hi,hok⟩ ih
 by_cases hlt:i < ds.length
 · obtain ⟨x,hx⟩:=D1 hlt
   have he:=C0 (enc:=DE.enc) hx
   have hw1:=FL (show i+1≤9000000000000000000 by omega)
   have hc:=Yx x σ (h x (Ai hx))
   cases hp:IT x with
   |true=>
    have hs:=jU hok hx hp
    rw [hp] at hc
    obtain ⟨nm,vs,cs⟩:=x
    simp only [DE.enc,deA,AE,AH] at he hc
    (repeat' (first|refine Run.ct rfl ?_|((first|refine Run.reg mixed ?_|refine Run.AM ?_|refine AG.det (hc) ?_)<;>try simp -implicitDefEqProofs only [Ca hlt,he,hw1,go_sem])|fail))
    exact ih (i+1) ⟨by omega,hs⟩ (by omega)
   |false=>
    have hs:=r1 (p:=IT) hx hp
    rw [hp] at hc
    obtain ⟨nm,vs,cs⟩:=x
    simp only [DE.enc,deA,AE,AH] at he hc
    (repeat' (first|refine Run.ct rfl ?_|((first|refine Run.reg mixed ?_|refine Run.AM ?_|refine Run.Af Cl (AN.le_refl _) ?_|refine AG.det (hc) ?_)<;>try simp -implicitDefEqProofs only [Ca hlt,he,hw1,go_sem])|fail))
    rw [hres,hs];rfl
 · rw [Aq (by omega)] at hok
   rw [hok,Ch] at hres
   clear ih
   (repeat' (first|refine Run.ct rfl ?_|((first|refine Run.reg mixed ?_|refine Run.AM ?_)<;>try simp -implicitDefEqProofs only [JZ hlt,go_sem])|fail))
   intro j hj
   have hle:=Ec (cs:=[AV.d (.int .i64 0)]) hj
   (repeat' (first|refine Run.ct rfl ?_|((first|refine Run.reg mixed ?_|refine Run.AM ?_)<;>try simp -implicitDefEqProofs only [AI,go_sem])|fail))
   refine Run.Cm ?_
   refine Run.Cn ((fun (a5:AV) (a32:AV) (a33:AV)=>fun (y:Nat×Nat)=>put 5 a5 (put 32 a32 (put 33 a33 (put 34 (.d (.int .i64 y.1)) U)))) _ _ _) (fun _=>E) (fun y=>σ.AL j [.d (.int .i64 (LP y.2))])
    (fun y=>y.1≤fs.length∧y.2≤600∧(fs.take y.1).foldlM Wr 600=some y.2) (fun y=>fs.length - y.1) ?_ (0,600) ⟨by simp,by simp,rfl⟩
   rintro ⟨i,q⟩ ⟨hi,hq,hok⟩ ih
   simp only at hi hq hok
   by_cases hlt:i < fs.length
   · obtain ⟨x,hx⟩:=D1 hlt
     have he:=C0 (enc:=FE.enc) hx
     have hw1:=FL (show i+1≤9000000000000000000 by omega)
     have hnm:=DZ x.name (σ.AL j [.d (.int .i64 (LP q))])
     have hps:=Gx (fid:=51) (caps:=[]) (by kernel_rfl) rfl Gr x.params (σ.AL j [.d (.int .i64 (LP q))]) (fun x _ σ1 _=>DZ x σ1)
     have h6:decide ((6:Int) < (x.params.length:Int))=!decide (x.params.length≤6):=gtN _ 6
     have hc:=Uo j 40 q (A7 _) hq x.body (σ.AL j [.d (.int .i64 (LP q))]) (by simp only [AO,if_true])
     rw [show ((41 - 40:Nat):Int)=1 from rfl] at hc
     have hno:Wr q x=none→fs.foldlM Wr 600=none:=fun h=>S1 hok hx h
     have hyes:∀r,Wr q x=some r→(fs.take (i+1)).foldlM Wr 600=some r:=fun r h=>by rw [S2 hok hx,h]
     have hvf:Wr q x=if Gr x.name&&decide (x.params.length≤6)&&x.params.all Gr then vEx 40 q x.body else none:=rfl
     cases h1:Gr x.name with
     |false=>
      rw [h1] at hnm hvf
      obtain ⟨nm,ps,o,n,u,ns,ks,al⟩:=x
      simp only [FE.enc,Ex.A3] at he hnm
      (repeat' (first|refine Run.ct rfl ?_|((first|refine Run.reg mixed ?_|refine Run.AM ?_|(refine Run.Af Cl (σ2:=σ) (Ec hj) ?_)|refine AG.det (hnm) ?_)<;>try simp -implicitDefEqProofs only [Ca hlt,he,go_sem])|fail))
      rw [hres,hno hvf];rfl
     |true=>
     by_cases h2:x.params.length≤6
     case neg=>
      rw [decide_eq_false h2] at h6
      rw [h1,decide_eq_false h2] at hvf
      rw [h1] at hnm
      obtain ⟨nm,ps,o,n,u,ns,ks,al⟩:=x
      simp only [FE.enc,Ex.A3] at he hnm h6
      (repeat' (first|refine Run.ct rfl ?_|((first|refine Run.reg mixed ?_|refine Run.AM ?_|(refine Run.Af Cl (σ2:=σ) (Ec hj) ?_)|refine AG.det (hnm) ?_)<;>try simp -implicitDefEqProofs only [Ca hlt,he,AI,h6,go_sem])|fail))
      rw [hres,hno hvf];rfl
     rw [decide_eq_true h2] at h6
     cases h3:x.params.all Gr with
     |false=>
      rw [h1,h3] at hvf
      rw [Bool.and_false] at hvf
      rw [h1] at hnm
      rw [h3] at hps
      obtain ⟨nm,ps,o,n,u,ns,ks,al⟩:=x
      simp only [FE.enc,Ex.A3] at he hnm h6 hps
      (repeat' (first|refine Run.ct rfl ?_|((first|refine Run.reg mixed ?_|refine Run.AM ?_|(refine Run.Af Cl (σ2:=σ) (Ec hj) ?_)|refine AG.det (hnm) ?_|refine AG.det (hps) ?_)<;>try simp -implicitDefEqProofs only [Ca hlt,he,AI,h6,go_sem])|fail))
      rw [hres,hno hvf];rfl
     |true=>
     rw [h1,h3,decide_eq_true h2] at hvf
     rw [h1] at hnm
     rw [h3] at hps
     cases hv:vEx 40 q x.body with
     |some r=>
      have hr:=Wp _ _ _ _ hv
      rw [hv] at hvf
      have hc:=VXQ.yes hc hv
      have hs:=hyes r hvf
      obtain ⟨nm,ps,o,n,u,ns,ks,al⟩:=x
      simp only [FE.enc,Ex.A3,exA,AE,AH] at he hnm h6 hps hc
      (repeat' (first|refine Run.ct rfl ?_|((first|refine Run.reg mixed ?_|refine Run.AM ?_|(refine AG.mk rfl hc ?_;rintro _ _ ⟨rfl,rfl⟩)|refine AG.det (hnm) ?_|refine AG.det (hps) ?_)<;>try simp -implicitDefEqProofs only [Ca hlt,he,hw1,AI,h6,go_sem])|fail))
      exact ih (i+1,r) ⟨by simp only;omega,by simp only;omega,hs⟩ (by simp only;omega)
     |none=>
      rw [hv] at hvf
      have hc:=VXQ.no hc hv
      obtain ⟨nm,ps,o,n,u,ns,ks,al⟩:=x
      simp only [FE.enc,Ex.A3,exA,AE,AH] at he hnm h6 hps hc
      (repeat' (first|refine Run.ct rfl ?_|((first|refine Run.reg mixed ?_|refine Run.AM ?_|(refine AG.mk rfl hc ?_;rintro _ _ ⟨rfl,z,rfl⟩)|(refine Run.Af Cl (σ2:=σ) (Ec hj) ?_)|refine AG.det (hnm) ?_|refine AG.det (hps) ?_)<;>try simp -implicitDefEqProofs only [Ca hlt,he,hw1,AI,h6,go_sem])|fail))
      rw [hres,hno hvf];rfl
   · rw [Aq (by omega)] at hok
     (repeat' (first|refine Run.ct rfl ?_|((first|refine Run.reg mixed ?_|refine Run.AM ?_|(refine Run.Af Cl (σ2:=σ) (Ec hj) ?_))<;>try simp -implicitDefEqProofs only [JZ hlt,go_sem])|fail))
     rw [hres,hok];rfl
end Go.Ab
namespace Go.Ab
open Go.Proofs
theorem n6:Am Tryz.prog 82=true:=by kernel_rfl
theorem tT:Am Tryz.prog 84=true:=by kernel_rfl
theorem qH:Am Tryz.prog 80=true:=by kernel_rfl
theorem n8 {i:Nat} (j:Nat) {c:CE} (h:To c=true):
 WX (fun σ=>σ.blk j=some [.gp i 0]) 82 ([]++[ceA c]++[.gp j 0]) i (fmtC c):=by
 intro σ0 σ s hH0 hb0 hlen
 have hjs:=hH0.1
 have hH:(fun _=>True) σ0∧σ0.gt Q7=some Se:=⟨trivial,hH0.2⟩
 obtain ⟨n,l⟩:=c
 simp only [To,AK,decide_eq_true_eq,A4] at h
 have hop:=HM (H:=fun _=>True) i (first:=[.gp i 0]) (caps:=[]) tT ⟨rfl,rfl⟩ C9 l (fun x hx=>nF i 40 x (h.2 x hx))
 refine N2 (by simp) ?_
 show Run _ _ _ (Ar [_,_]) _ _
 rw [BH]
 rw [fmtC] at hlen ⊢
 simp only [ceA,CE.enc,AE,AH] at hlen ⊢
 (repeat' (first|refine Run.ct rfl ?_|((first|refine Run.reg mixed ?_|refine Run.AM ?_|(refine AG.mk rfl (A2 n hb0 (by (try simp only [AD,AA,AF] at hlen ⊢);omega)) ?_;rintro _ σ1 ⟨rfl,hb1⟩)|(refine AQ rfl (fun h=>?_) (fun h=>?_)<;>try (cases h;done)))<;>try simp -implicitDefEqProofs only [(hb0.le.blk j _ hjs),go_sem])|(refine ⟨fun h=>?_,fun h=>?_⟩<;>first|(cases h;done)|try simp only [h])|fail))
 try simp -implicitDefEqProofs only [(hb1.le.blk j _ hjs),go_sem]
 (repeat' (first|refine Run.ct rfl ?_|((first|refine Run.reg mixed ?_|refine Run.AM ?_|(refine AG.mk rfl (hop σ0 σ1 _ hH hb1 (by (try simp only [AD,AA,AF] at hlen ⊢);omega)) ?_;rintro _ σ2 ⟨rfl,hb2⟩)|(refine AQ rfl (fun h=>?_) (fun h=>?_)<;>try (cases h;done)))<;>try simp -implicitDefEqProofs only [(hb1.le.blk j _ hjs),go_sem])|(refine ⟨fun h=>?_,fun h=>?_⟩<;>first|(cases h;done)|try simp only [h])|fail))
 try simp only [AS,AX,A6,A1] at hb2 ⊢
 exact Run.fin Hm rfl (fun _ _ h=>h) (AN.le_refl _) ⟨rfl,hb2⟩
theorem oA {i:Nat} {d:DE} (h:IT d=true):WC 42 [.gp i 0,deA d] i (S0 d):=by
 intro σ0 σ s hH hbu hlen
 obtain ⟨n,vs,cs⟩:=d
 simp only [IT,AK,decide_eq_true_eq,A4] at h
 have hvs:=ME (H:=fun _=>True) i (first:=[.gp i 0]) (caps:=[]) qH ⟨rfl,rfl⟩ id vs (fun x _=>qI i x)
 rw [List.map_id] at hvs
 refine PU (by simp) ?_
 rw [BH]
 rw [S0] at hlen ⊢
 simp only [deA,DE.enc,AE,AH] at hlen ⊢
 (repeat' (first|refine Run.ct rfl ?_|((first|refine Run.reg mixed ?_|refine Run.AM ?_|(refine AQ rfl (fun h=>?_) (fun h=>?_)<;>try (cases h;done)))<;>try simp -implicitDefEqProofs only [go_sem])|(refine ⟨fun h=>?_,fun h=>?_⟩<;>first|(cases h;done)|try simp only [h])|fail))
 intro j hj
 have hun:∀s' σ',BuS (σ0.AL j [.gp i 0]) i s' σ'→BuS σ0 i s' σ':=fun s' σ' h=>hbu.fF hj h
 have hjs:(σ0.AL j [.gp i 0]).blk j=some [.gp i 0]:=by simp [AO]
 have hH:(fun _=>True) (σ0.AL j [.gp i 0])∧(σ0.AL j [.gp i 0]).gt Q7=some Se:=⟨trivial,hH.2⟩
 have hb0:=hbu.share (cs:=[.gp i 0]) hj
 generalize σ.AL j [.gp i 0]=τ at hb0 ⊢
 generalize σ0.AL j [.gp i 0]=τ0 at hun hjs hH hb0
 have hHj:(fun σ=>σ.blk j=some [.gp i 0]) τ0∧τ0.gt Q7=some Se:=⟨hjs,hH.2⟩
 have hsep:=NG (H:=fun σ=>σ.blk j=some [.gp i 0]) i (first:=[]) (caps:=[.gp j 0]) n6 ⟨rfl,rfl⟩ [32,124,32] fmtC cs (fun x hx=>n8 j (h.2 x hx))
 have ha1:=G6 (a:=[100,97,116,97,32]) (b:=n) (by simp only [AA,AD,AF] at hlen ⊢;omega)
 simp only [AX,A6] at ha1
 (repeat' (first|refine Run.ct rfl ?_|((first|refine Run.reg mixed ?_|refine Run.AM ?_|(refine AG.mk rfl (A2 _ hb0 (by (try simp only [AD,AA,AF] at hlen ⊢);omega)) ?_;rintro _ σ1 ⟨rfl,hb1⟩)|(refine AQ rfl (fun h=>?_) (fun h=>?_)<;>try (cases h;done)))<;>try simp -implicitDefEqProofs only [ha1,(hb0.le.blk j _ hjs),go_sem])|(refine ⟨fun h=>?_,fun h=>?_⟩<;>first|(cases h;done)|try simp only [h])|fail))
 try simp -implicitDefEqProofs only [(hb1.le.blk j _ hjs),go_sem]
 (repeat' (first|refine Run.ct rfl ?_|((first|refine Run.reg mixed ?_|refine Run.AM ?_|(refine AG.mk rfl (hvs τ0 σ1 _ hH hb1 (by (try simp only [AD,AA,AF] at hlen ⊢);omega)) ?_;rintro _ σ2 ⟨rfl,hb2⟩)|(refine AQ rfl (fun h=>?_) (fun h=>?_)<;>try (cases h;done)))<;>try simp -implicitDefEqProofs only [ha1,(hb1.le.blk j _ hjs),go_sem])|(refine ⟨fun h=>?_,fun h=>?_⟩<;>first|(cases h;done)|try simp only [h])|fail))
 try simp -implicitDefEqProofs only [(hb2.le.blk j _ hjs),go_sem]
 (repeat' (first|refine Run.ct rfl ?_|((first|refine Run.reg mixed ?_|refine Run.AM ?_|(refine AG.mk rfl (A2 [32,61,32] hb2 (by (try simp only [AD,AA,AF] at hlen ⊢);omega)) ?_;rintro _ σ3 ⟨rfl,hb3⟩)|(refine AQ rfl (fun h=>?_) (fun h=>?_)<;>try (cases h;done)))<;>try simp -implicitDefEqProofs only [ha1,(hb2.le.blk j _ hjs),go_sem])|(refine ⟨fun h=>?_,fun h=>?_⟩<;>first|(cases h;done)|try simp only [h])|fail))
 try simp -implicitDefEqProofs only [(hb3.le.blk j _ hjs),go_sem]
 (repeat' (first|refine Run.ct rfl ?_|((first|refine Run.reg mixed ?_|refine Run.AM ?_|(refine AG.mk rfl (hsep τ0 σ3 _ hHj hb3 (by (try simp only [AD,AA,AF] at hlen ⊢);omega)) ?_;rintro _ σ4 ⟨rfl,hb4⟩)|(refine AQ rfl (fun h=>?_) (fun h=>?_)<;>try (cases h;done)))<;>try simp -implicitDefEqProofs only [ha1,(hb3.le.blk j _ hjs),go_sem])|(refine ⟨fun h=>?_,fun h=>?_⟩<;>first|(cases h;done)|try simp only [h])|fail))
 try simp -implicitDefEqProofs only [(hb4.le.blk j _ hjs),go_sem]
 (repeat' (first|refine Run.ct rfl ?_|((first|refine Run.reg mixed ?_|refine Run.AM ?_|(refine AG.mk rfl (A2 [59,10] hb4 (by (try simp only [AD,AA,AF] at hlen ⊢);omega)) ?_;rintro _ σ5 ⟨rfl,hb5⟩)|(refine AQ rfl (fun h=>?_) (fun h=>?_)<;>try (cases h;done)))<;>try simp -implicitDefEqProofs only [ha1,(hb4.le.blk j _ hjs),go_sem])|(refine ⟨fun h=>?_,fun h=>?_⟩<;>first|(cases h;done)|try simp only [h])|fail))
 try simp only [AS,AX,A6,A1] at hb5 ⊢
 exact Run.fin JH rfl (fun _ _ h=>h) (AN.le_refl _) ⟨rfl,hun _ _ hb5⟩
theorem YC {α:Type} {f:α→Str} {l:List α} {k:Nat} {x:α} (h:l[k]?=some x):((l.take (k+1)).map f).flatten=((l.take k).map f).flatten++f x:=by
 rw [La h];simp
theorem Wm {α:Type} (f:α→Str) (l:List α) (k:Nat):((l.take k).map f).flatten.length≤(l.map f).flatten.length:=by
 have:((l.map f).flatten).length=((l.take k).map f).flatten.length+((l.drop k).map f).flatten.length:=by
  rw [← AA,← LL,← Bc,Fs]
 omega
set_option maxHeartbeats 4000000 in
theorem Nz (p:Pg) (σ:AN) (hp:σ.gt Q7=some Se) (hs:∀d∈p.data,∀c∈d.cons,∀t∈c.args,t.size≤100000):
 AT Tryz.prog 17 [pgA p] σ (fun v σ'=>v= .d (.str (if EW p then Up p else []))∧σ'=σ):=by
 have hv:=Kn p σ (fun d hd c hc t ht=>At (hs d hd c hc t ht) (by decide))
 refine Uq (by simp) ?_
 rw [BM]
 cases hval:EW p with
 |false=>
  rw [hval] at hv
  obtain ⟨ds,fs⟩:=p
  simp only [pgA,Pg.enc,AE,AH,AY,if_false] at hv ⊢
  (repeat' (first|refine Run.ct rfl ?_|((first|refine Run.reg mixed ?_|refine Run.AM ?_|(refine Run.Af K9 (σ2:=σ) (AN.le_refl _) ?_)|refine AG.det (hv) ?_|(refine AQ rfl (fun h=>?_) (fun h=>?_)<;>try (cases h;done)))<;>try simp -implicitDefEqProofs only [go_sem])|(refine ⟨fun h=>?_,fun h=>?_⟩<;>first|(cases h;done)|try simp only [h])|fail))
 |true=>
 rw [hval] at hv
 have hlen:=oI hval hs
 obtain ⟨⟨hd12,hda⟩,hf24,hfa⟩:=Qv hval
 obtain ⟨ds,fs⟩:=p
 simp only [pgA,Pg.enc,AE,AH,if_true] at hv hd12 hda hf24 hfa ⊢
 rw [Up,AA] at hlen
 simp only at hlen
 (repeat' (first|refine Run.ct rfl ?_|((first|refine Run.reg mixed ?_|refine Run.AM ?_|(refine XEx.ZJ rfl rfl rfl (fun i hi=>?_))|refine AG.det (hv) ?_|(refine AQ rfl (fun h=>?_) (fun h=>?_)<;>try (cases h;done)))<;>try simp -implicitDefEqProofs only [AI,go_sem])|(refine ⟨fun h=>?_,fun h=>?_⟩<;>first|(cases h;done)|try simp only [h])|fail))
 have hbu0:=fZ hi
 have hbk0:((σ.AL i [.E9,.AU]).JR i (2,87)).blk i=some [.E9,.AU]:=by simp [AN.JR,AN.AL]
 generalize (σ.AL i [AV.E9,.AU]).JR i (2,87)=τ0 at hbu0 hbk0 ⊢
 (repeat' (first|refine Run.ct rfl ?_|((first|refine Run.reg mixed ?_|refine Run.AM ?_|(refine AQ rfl (fun h=>?_) (fun h=>?_)<;>try (cases h;done)))<;>try simp -implicitDefEqProofs only [AI,go_sem])|(refine ⟨fun h=>?_,fun h=>?_⟩<;>first|(cases h;done)|try simp only [h])|fail))
 refine Run.Cm ?_
 refine Run.Cn ((fun (a1:AV) (a3:AV) (a14:AV) (a15:AV)=>fun (y:Nat×List UInt8×AN)=>put 1 a1 (put 3 a3 (put 14 a14 (put 15 a15 (put 16 (.d (.int .i64 y.1)) U))))) _ _ _ _) (fun _=>Bd 1 [.d (.sl (ds.map DE.enc)),.d (.sl (fs.map FE.enc))] E) (fun y=>y.2.2)
  (fun y=>y.1≤ds.length∧BuS σ i y.2.1 y.2.2∧y.2.1=((ds.take y.1).map S0).flatten∧(y.2.1=[]→∃p,y.2.2.blk i=some [p,.AU])) (fun y=>ds.length - y.1) ?_ (0,[],τ0) ⟨by simp,hbu0,by simp,fun _=>⟨_,hbk0⟩⟩
 rintro ⟨k,s1,τ⟩ ⟨hk,hb1,hs1,he1⟩ ih
 simp only at hk hb1 hs1 he1
 by_cases hlt:k < ds.length
 · obtain ⟨d,hd⟩:=D1 hlt
   have he:=C0 (enc:=DE.enc) hd
   have hw1:IntKind.i64.wrap ((k:Int)+1)=((k+1:Nat):Int):=by rw [BL (by omega) (by omega)];omega
   have hdo:=oA (i:=i) (hda d (Ai hd))
   have htf:=YC (f:=S0) hd
   have hle:=Wm S0 ds (k+1)
   have hne:S0 d≠[]:=by rw [S0];simp
   rw [htf,← hs1,AA] at hle
   have hc:=hdo σ τ s1 ⟨trivial,hp⟩ hb1 (by omega)
   generalize S0 d=x at hc htf hne hle
   obtain ⟨n,vs,cs⟩:=d
   simp only [deA,DE.enc,AE,AH] at he hc
   (repeat' (first|refine Run.ct rfl ?_|((first|refine Run.reg mixed ?_|refine Run.AM ?_|(refine AG.mk rfl hc ?_;rintro _ σ1 ⟨rfl,hb2⟩)|(refine AQ rfl (fun h=>?_) (fun h=>?_)<;>try (cases h;done)))<;>try simp -implicitDefEqProofs only [Ca hlt,he,hw1,AI,go_sem])|(refine ⟨fun h=>?_,fun h=>?_⟩<;>first|(cases h;done)|try simp only [h])|fail))
   (repeat' (first|refine Run.ct rfl ?_|((first|refine Run.reg mixed ?_|refine Run.AM ?_|(refine AQ rfl (fun h=>?_) (fun h=>?_)<;>try (cases h;done)))<;>try simp -implicitDefEqProofs only [hw1,go_sem])|(refine ⟨fun h=>?_,fun h=>?_⟩<;>first|(cases h;done)|try simp only [h])|fail))
   exact ih (k+1,_,σ1) ⟨by simp only;omega,hb2,by simp only;rw [htf,hs1],fun h=>absurd (List.append_eq_nil_iff.1 h).2 hne⟩ (by simp only;omega)
 have hke:k=ds.length:=by omega
 rw [hke,List.take_length] at hs1
 (repeat' (first|refine Run.ct rfl ?_|((first|refine Run.reg mixed ?_|refine Run.AM ?_|(refine AQ rfl (fun h=>?_) (fun h=>?_)<;>try (cases h;done)))<;>try simp -implicitDefEqProofs only [JZ hlt,AI,go_sem])|(refine ⟨fun h=>?_,fun h=>?_⟩<;>first|(cases h;done)|try simp only [h])|fail))
 refine Run.Cm ?_
 refine Run.Cn ((fun (a3:AV) (a25:AV) (a26:AV)=>fun (y:Nat×List UInt8×AN)=>put 3 a3 (put 25 a25 (put 26 a26 (put 27 (.d (.int .i64 y.1)) U)))) _ _ _) (fun _=>E) (fun y=>y.2.2)
  (fun y=>y.1≤fs.length∧BuS σ i y.2.1 y.2.2∧y.2.1=(ds.map S0).flatten++((fs.take y.1).map Ts).flatten∧(y.2.1=[]→∃p,y.2.2.blk i=some [p,.AU])) (fun y=>fs.length - y.1) ?_ (0,s1,τ) ⟨by simp,hb1,by simp [hs1],he1⟩
 rintro ⟨q,s2,τ2⟩ ⟨hq,hq1,hs2,he2⟩ ih2
 simp only at hq hq1 hs2 he2
 by_cases hlt2:q < fs.length
 · obtain ⟨d,hd⟩:=D1 hlt2
   have he:=C0 (enc:=FE.enc) hd
   have hw1:IntKind.i64.wrap ((q:Int)+1)=((q+1:Nat):Int):=by rw [BL (by omega) (by omega)];omega
   obtain ⟨hhd,hnb,hsz⟩:=hfa d (Ai hd)
   have htf:=YC (f:=Ts) hd
   have hle:=Wm Ts fs (q+1)
   have hne:Ts d≠[]:=by rw [Ts];simp
   rw [htf,AA] at hle
   have hl2:s2.length+(Ts d).length≤10000000000:=by rw [hs2,AA];omega
   have hex:=YR i d.body hnb 0
   unfold EC at hex
   rw [pl,if_neg (by omega)] at hex
   rw [Ts] at hl2 htf hne
   simp only [Mc,AK,decide_eq_true_eq] at hhd
   obtain ⟨n,ps,b⟩:=d
   simp only at hl2 htf hne hex hhd
   generalize Ax b=tb at *
   obtain ⟨ob,nb,ub,nsb,ksb,alb⟩:=b
   simp only [exA,FE.enc,Ex.A3,AE,AH,AX,A6] at he hex
   have hlen2:=hl2
   simp only [Hy,I8,cms,AA,AD,AF] at hlen2
   have hjn:=fun σ=>dM ps [44,32] σ (by omega) (by omega)
   have ha1:=G6 (a:=[102,117,110,32]) (b:=n) (by simp only [AA,AD,AF];omega)
   have ha2:=G6 (a:=[102,117,110,32]++n) (b:=[40]) (by simp only [AA,AD,AF];omega)
   have ha3:=G6 (a:=[102,117,110,32]++n++[40]) (b:=Lib.join ps [44,32]) (by simp only [AA,AD,AF];omega)
   have ha4:=G6 (a:=[102,117,110,32]++n++[40]++Lib.join ps [44,32]) (b:=[41,32,61,32]) (by simp only [AA,AD,AF];omega)
   simp only [AX,A6] at ha1 ha2 ha3 ha4
   (repeat' (first|refine Run.ct rfl ?_|((first|refine Run.reg mixed ?_|refine Run.AM ?_|(refine AG.mk rfl (A2 _ hq1 (by simp only [AA,AD,AF];omega)) ?_;rintro _ σ1 ⟨rfl,hb2⟩)|refine AG.det (hjn _) ?_|(refine AQ rfl (fun h=>?_) (fun h=>?_)<;>try (cases h;done)))<;>try simp -implicitDefEqProofs only [Ca hlt2,he,hw1,ha1,ha2,ha3,ha4,AI,go_sem])|(refine ⟨fun h=>?_,fun h=>?_⟩<;>first|(cases h;done)|try simp only [h])|fail))
   (repeat' (first|refine Run.ct rfl ?_|((first|refine Run.reg mixed ?_|refine Run.AM ?_|(refine AG.mk rfl (hex σ σ1 _ ⟨trivial,hp⟩ hb2 (by simp only [AA,AD,AF];omega)) ?_;rintro _ σ2 ⟨rfl,hb3⟩)|(refine AQ rfl (fun h=>?_) (fun h=>?_)<;>try (cases h;done)))<;>try simp -implicitDefEqProofs only [hw1,go_sem])|(refine ⟨fun h=>?_,fun h=>?_⟩<;>first|(cases h;done)|try simp only [h])|fail))
   (repeat' (first|refine Run.ct rfl ?_|((first|refine Run.reg mixed ?_|refine Run.AM ?_|(refine AG.mk rfl (A2 _ hb3 (by simp only [AA,AD,AF];omega)) ?_;rintro _ σ3 ⟨rfl,hb4⟩)|(refine AQ rfl (fun h=>?_) (fun h=>?_)<;>try (cases h;done)))<;>try simp -implicitDefEqProofs only [hw1,go_sem])|(refine ⟨fun h=>?_,fun h=>?_⟩<;>first|(cases h;done)|try simp only [h])|fail))
   (repeat' (first|refine Run.ct rfl ?_|((first|refine Run.reg mixed ?_|refine Run.AM ?_|(refine AQ rfl (fun h=>?_) (fun h=>?_)<;>try (cases h;done)))<;>try simp -implicitDefEqProofs only [hw1,go_sem])|(refine ⟨fun h=>?_,fun h=>?_⟩<;>first|(cases h;done)|try simp only [h])|fail))
   refine ih2 (q+1,_,σ3) ⟨by simp only;omega,hb4,?_,fun h=>?_⟩ (by simp only;omega)
   · simp only
     rw [htf,hs2]
     simp [Hy,I8,cms]
   · simp at h
 have hqe:q=fs.length:=by omega
 rw [hqe,List.take_length] at hs2
 have hst:=fL hq1 he2
 (repeat' (first|refine Run.ct rfl ?_|((first|refine Run.reg mixed ?_|refine Run.AM ?_|(refine AG.mk rfl hst ?_;rintro _ σ1 ⟨rfl,hle1⟩)|(refine Run.Af K9 (σ2:=σ) hle1 ?_)|(refine AQ rfl (fun h=>?_) (fun h=>?_)<;>try (cases h;done)))<;>try simp -implicitDefEqProofs only [JZ hlt2,AI,go_sem])|(refine ⟨fun h=>?_,fun h=>?_⟩<;>first|(cases h;done)|try simp only [h])|fail))
 rw [hs2];rfl
end Go.Ab
