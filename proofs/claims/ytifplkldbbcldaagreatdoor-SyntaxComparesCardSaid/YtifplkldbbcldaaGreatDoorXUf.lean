/- Valid expressions. Valid expressions, as the reference looks at them. Valid expressions, as the reference looks at them: the nodes. Valid programs. The printer: declarations, programs. Conditions: none. -/
import Derived.Test.YtifplkldbbcldaaGreatDoorXRh
set_option linter.unusedSimpArgs false
set_option linter.unusedVariables false
set_option maxRecDepth 4000
set_option maxHeartbeats 8000000
open List renaming take_append_drop→Ek,mem_cons_of_mem→Ah,mem_cons_self→Ad,map_cons→AD,map_nil→AG,length_map→AF,take_of_length_le→Ae,mem_of_getElem?→A6,all_eq_true→A5,length_cons→AE,length_append→AA,length_nil→AH,append_assoc→AT,cons_append→AX,nil_append→A0,append_nil→AZ,flatten_append→MZ,map_append→Bn
open Option renaming bind_eq_bind→AS,bind_eq_some_iff→AB,bind_some→B3
open Nat renaming le_refl→A8,le_trans→BC
open Bool renaming eq_iff_iff→Gr,and_eq_true→AN,true_and→DD,false_eq_true→A1
namespace Go.Ab
open Go.Proofs
section
variable {α β:Type}
theorem UK {f:β→α→Option β} {l:List α} {i:Nat} {x:α} {a b:β} (h:(l.take i).foldlM f a=some b) (hx:l[i]?=some x):(l.take (i+1)).foldlM f a=f b x:=by
 rw [Ft hx,List.foldlM_append,h]
 simp [List.foldlM]
theorem UJ {f:β→α→Option β} {l:List α} {i:Nat} {x:α} {a b:β} (h:(l.take i).foldlM f a=some b) (hx:l[i]?=some x) (hn:f b x=none):l.foldlM f a=none:=by
 conv=>lhs;rw [← Ek i l]
 rw [List.foldlM_append,h,JR hx]
 simp [List.foldlM,hn]
theorem Xt {f:Nat→α→Option Nat}:∀(l:List α) (a b:Nat),(∀x∈l,∀a b,f a x=some b→b≤a)→l.foldlM f a=some b→b≤a
 |[],a,b,_,h=>by simp [List.foldlM] at h;omega
 |x::l,a,b,hf,h=>by
  simp only [List.foldlM,AS,AB] at h
  obtain ⟨c,hc,h⟩:=h
  have:=Xt l c b (fun y hy=>hf y (Ah _ hy)) h
  have:=hf x (Ad ..) a c hc
  omega
end
theorem Yy:∀(d q:Nat) (e:Ex) (r:Nat),vEx d q e=some r→r≤q
 |0,q,e,r,h=>by cases h
 |d+1,0,.mk ..,r,h=>by cases h
 |d+1,q+1,.mk o n u ns ks al,r,h=>by
  simp only [vEx] at h
  split at h
  · simp only [AB] at h
    obtain ⟨c,hc,h⟩:=h
    have h1:=Xt ks q c (fun x _ a b hab=>Yy d a x b hab) hc
    have h2:=Xt al c r (fun x _ a b hab=>by cases x;exact Yy d a _ b hab) h
    omega
  · cases h
def VXQ (enc:Nat→Int) (j d q:Nat) (e:Ex) (σ:AM) (v:AV) (σ':AM):Prop:=
 ∃b z,v= .d (.bool b)∧σ'=σ.AL j [.d (.int .i64 z)]∧b=(vEx d q e).isSome∧∀r,vEx d q e=some r→z=enc r
theorem VXQ.yes {enc:Nat→Int} {j d q:Nat} {e:Ex} {σ:AM} {P:Program} {f:FuncId} {args:List AV} {r:Nat} (h:AQ P f args σ (VXQ enc j d q e σ)) (hr:vEx d q e=some r):AQ P f args σ (fun v σ'=>v= .d (.bool true)∧σ'=σ.AL j [.d (.int .i64 (enc r))]):=
 h.mono (by
  rintro v σ' ⟨b,z,rfl,rfl,rfl,h⟩
  rw [h r hr,hr];exact ⟨rfl,rfl⟩)
theorem VXQ.no {enc:Nat→Int} {j d q:Nat} {e:Ex} {σ:AM} {P:Program} {f:FuncId} {args:List AV} (h:AQ P f args σ (VXQ enc j d q e σ)) (hr:vEx d q e=none):AQ P f args σ (fun v σ'=>v= .d (.bool false)∧∃z,σ'=σ.AL j [.d (.int .i64 z)]):=
 h.mono (by
  rintro v σ' ⟨b,z,rfl,rfl,rfl,h⟩
  rw [hr];exact ⟨rfl,z,rfl⟩)
def fK (d:Nat):Nat→Ex→Option Nat:=fun q e=>vEx d q e
def fA (d:Nat):Nat→Al→Option Nat:=fun q a=>match a with| .mk _ _ b=>vEx d q b
theorem Yz (d q:Nat) (o:Int) (n:Str) (u:Int) (ns:List Str) (ks:List Ex) (al:List Al):vEx (d+1) (q+1) (.mk o n u ns ks al)=if HT o n u ns ks.length al then (ks.foldlM (fK d) q).bind fun q=>al.foldlM (fA d) q else none:=rfl
def M3 (r:Nat):Int:=((600 - r:Nat):Int)
set_option maxHeartbeats 4000000 in
theorem Wp (j:Nat):∀(d q:Nat),d≤40→q≤600→∀(e:Ex) (σ:AM),σ.blk j=some [.d (.int .i64 (M3 q))]→
 AQ Tryz.prog 53 [.gp j 0,exA e,.d (.int .i64 ((41 - d:Nat):Int))] σ (VXQ M3 j d q e σ):=by
 intro d
 induction d with
 |zero=>
  intro q _ hq e σ hj
  obtain ⟨o,n,u,ns,ks,al⟩:=e
  refine KR (by simp) ?_
  rw [Fb,exA,Ex.A2]
  have hw:IntKind.i64.wrap (M3 q+1)=((601 - q:Nat):Int):=by rw [M3,Au (by omega) (by omega)];omega
  have h4:decide ((40:Int) < ((41 - 0:Nat):Int))=true:=by decide
  (repeat' (first|refine Run.ct rfl ?_|((first|refine Run.reg mixed ?_|refine Run.AJ ?_|refine Run.I8 CC (AM.le_refl _) ?_|(refine AP rfl (fun h=>?_) (fun h=>?_)<;>try (cases h;done)))<;>try simp -implicitDefEqProofs only [hj,hw,h4,go_sem])|fail))
  all_goals exact ⟨false,_,rfl,rfl,rfl,fun r h=>by cases h⟩
 |succ d ihd=>
  intro q hd hq e σ hj
  obtain ⟨o,n,u,ns,ks,al⟩:=e
  refine KR (by simp) ?_
  rw [Fb,exA,Ex.A2]
  cases q with
  |zero=>
   have hw:IntKind.i64.wrap (M3 0+1)=601:=by decide
   have h6:decide ((600:Int) < 601)=true:=by decide
   (repeat' (first|refine Run.ct rfl ?_|((first|refine Run.reg mixed ?_|refine Run.AJ ?_|refine Run.I8 CC (AM.le_refl _) ?_)<;>try simp -implicitDefEqProofs only [hj,hw,h6,go_sem])|fail))
   exact ⟨false,_,rfl,rfl,rfl,fun r h=>by cases h⟩
  |succ q=>
  have hw:IntKind.i64.wrap (M3 (q+1)+1)=M3 q:=by
   have e:M3 (q+1)+1=M3 q:=by simp only [M3];omega
   rw [e];exact Au (by simp only [M3];omega) (by simp only [M3];omega)
  have h6:decide ((600:Int) < M3 q)=false:=decide_eq_false (Int.not_lt.2 (by unfold M3;omega))
  have h4:decide ((40:Int) < ((41 - (d+1):Nat):Int))=false:=by simp only [decide_eq_false_iff_not];omega
  have hnode:=cU o n u ns ks al
  simp only [exA,Ex.A2,AD,AG] at hnode
  have hw2:IntKind.i64.wrap (((41 - (d+1):Nat):Int)+1)=((41 - d:Nat):Int):=by
   have e:((41 - (d+1):Nat):Int)+1=((41 - d:Nat):Int):=by omega
   rw [e];exact Au (by omega) (by omega)
  cases hn:HT o n u ns ks.length al with
  |false=>
   rw [hn] at hnode
   (repeat' (first|refine Run.ct rfl ?_|((first|refine Run.reg mixed ?_|refine Run.AJ ?_|refine Run.I8 CC (AM.le_refl _) ?_|refine AI.det (hnode _) ?_)<;>try simp -implicitDefEqProofs only [hj,hw,h6,h4,go_sem])|fail))
   exact ⟨false,_,rfl,rfl,by rw [Yz,if_neg (by simp [hn])];rfl,fun r h=>by rw [Yz,if_neg (by simp [hn])] at h;cases h⟩
  |true=>
  rw [hn] at hnode
  have hres:vEx (d+1) (q+1) (.mk o n u ns ks al)=(ks.foldlM (fK d) q).bind fun q=>al.foldlM (fA d) q:=by rw [Yz,if_pos hn]
  generalize hV:VXQ M3 j (d+1) (q+1) (.mk o n u ns ks al) σ=V
  have hno:∀z,vEx (d+1) (q+1) (.mk o n u ns ks al)=none→V (.d (.bool false)) (σ.AL j [.d (.int .i64 z)]):=fun z h=>by
   rw [← hV];exact ⟨false,z,rfl,rfl,by rw [h];rfl,fun r hr=>by rw [h] at hr;cases hr⟩
  have hyes:∀r,vEx (d+1) (q+1) (.mk o n u ns ks al)=some r→V (.d (.bool true)) (σ.AL j [.d (.int .i64 (M3 r))]):=fun z h=>by
   rw [← hV];exact ⟨true,_,rfl,rfl,by rw [h];rfl,fun r hr=>by rw [h] at hr;cases hr;rfl⟩
  clear hV
  (repeat' (first|refine Run.ct rfl ?_|((first|refine Run.reg mixed ?_|refine Run.AJ ?_|refine AI.det (hnode _) ?_)<;>try simp -implicitDefEqProofs only [hj,hw,h6,h4,AF,go_sem])|fail))
  refine Run.cell 4 4 rfl rfl (fun hb4=>?_)
  refine Run.cell 4 5 rfl rfl (fun hb5=>?_)
  simp only [AV.Dz,AF] at hb4 hb5
  refine Run.Bl ?_
  refine Run.Bm ((fun (a0:AV) (a2:AV) (a4:AV) (a33:AV) (a34:AV)=>fun (y:Nat×Nat)=>put 0 a0 (put 2 a2 (put 4 a4 (put 33 a33 (put 34 a34 (put 35 (.d (.int .i64 y.1)) U)))))) _ _ _ _ _) (fun _=>B6 4 [.d (.int .i64 o),.d (.str n),.d (.int .i64 u),.d (.sl (ns.map Dt)),.d (.sl (ks.map Ex.enc)),.d (.sl (al.map Al.enc))] E) (fun y=>σ.AL j [.d (.int .i64 (M3 y.2))])
   (fun y=>y.1≤ks.length∧y.2≤q∧(ks.take y.1).foldlM (fK d) q=some y.2) (fun y=>ks.length - y.1) ?_ (0,q) ⟨by simp,A8 _,rfl⟩
  rintro ⟨i,p⟩ ⟨hi,hp,hok⟩ ih
  simp only at hi hp hok
  by_cases hlt:i < ks.length
  · obtain ⟨x,hx⟩:=B4 hlt
    have he:=BK (enc:=Ex.enc) hx
    have hw1:IntKind.i64.wrap ((i:Int)+1)=((i+1:Nat):Int):=by rw [Au (by omega) (by omega)];omega
    have hc:=ihd p (by omega) (by omega) x (σ.AL j [.d (.int .i64 (M3 p))]) (by simp only [AO,if_true])
    cases hv:vEx d p x with
    |some r=>
     have hr:=Yy _ _ _ _ hv
     have hc:=VXQ.yes hc hv
     have hs:=UK hok hx
     obtain ⟨xo,xn,xu,xs,xk,xa⟩:=x
     simp only [Ex.A2,exA,AD,AG] at he hc
     (repeat' (first|refine Run.ct rfl ?_|((first|refine Run.reg mixed ?_|refine Run.AJ ?_|(refine AI.mk rfl hc ?_;rintro _ _ ⟨rfl,rfl⟩))<;>try simp -implicitDefEqProofs only [Bk hlt,he,hw1,hw2,go_sem])|fail))
     exact ih (i+1,r) ⟨by simp only;omega,by simp only;omega,by simp only;rw [hs];exact hv⟩ (by simp only;omega)
    |none=>
     have hc:=VXQ.no hc hv
     have hs:=UJ hok hx hv
     obtain ⟨xo,xn,xu,xs,xk,xa⟩:=x
     simp only [Ex.A2,exA,AD,AG] at he hc
     (repeat' (first|refine Run.ct rfl ?_|((first|refine Run.reg mixed ?_|refine Run.AJ ?_|refine Run.I8 CC (AM.le_refl _) ?_|(refine AI.mk rfl hc ?_;rintro _ _ ⟨rfl,z,rfl⟩))<;>try simp -implicitDefEqProofs only [Bk hlt,he,hw1,hw2,go_sem])|fail))
     exact hno z (by rw [hres,hs];rfl)
  · rw [Ae (by omega)] at hok
    rw [hok,B3] at hres
    clear ih
    (repeat' (first|refine Run.ct rfl ?_|((first|refine Run.reg mixed ?_|refine Run.AJ ?_)<;>try simp -implicitDefEqProofs only [HQ hlt,AF,go_sem])|fail))
    refine Run.Bl ?_
    refine Run.Bm ((fun (a0:AV) (a2:AV) (a47:AV) (a48:AV)=>fun (y:Nat×Nat)=>put 0 a0 (put 2 a2 (put 47 a47 (put 48 a48 (put 49 (.d (.int .i64 y.1)) U))))) _ _ _ _) (fun _=>E) (fun y=>σ.AL j [.d (.int .i64 (M3 y.2))])
     (fun y=>y.1≤al.length∧y.2≤q∧(al.take y.1).foldlM (fA d) p=some y.2) (fun y=>al.length - y.1) ?_ (0,p) ⟨by simp,hp,rfl⟩
    rintro ⟨i,p⟩ ⟨hi,hp,hok⟩ ih
    simp only at hi hp hok
    by_cases hlt:i < al.length
    · obtain ⟨x,hx⟩:=B4 hlt
      have he:=BK (enc:=Al.enc) hx
      have hw1:IntKind.i64.wrap ((i:Int)+1)=((i+1:Nat):Int):=by rw [Au (by omega) (by omega)];omega
      obtain ⟨xc,xv,x⟩:=x
      have hc:=ihd p (by omega) (by omega) x (σ.AL j [.d (.int .i64 (M3 p))]) (by simp only [AO,if_true])
      cases hv:vEx d p x with
      |some r=>
       have hr:=Yy _ _ _ _ hv
       have hc:=VXQ.yes hc hv
       have hs:=UK hok hx
       obtain ⟨xo,xn,xu,xs,xk,xa⟩:=x
       simp only [Al.A2,Ex.A2,exA,AD,AG] at he hc
       (repeat' (first|refine Run.ct rfl ?_|((first|refine Run.reg mixed ?_|refine Run.AJ ?_|(refine AI.mk rfl hc ?_;rintro _ _ ⟨rfl,rfl⟩))<;>try simp -implicitDefEqProofs only [Bk hlt,he,hw1,hw2,go_sem])|fail))
       exact ih (i+1,r) ⟨by simp only;omega,by simp only;omega,by simp only;rw [hs];exact hv⟩ (by simp only;omega)
      |none=>
       have hc:=VXQ.no hc hv
       have hs:=UJ hok hx hv
       obtain ⟨xo,xn,xu,xs,xk,xa⟩:=x
       simp only [Al.A2,Ex.A2,exA,AD,AG] at he hc
       (repeat' (first|refine Run.ct rfl ?_|((first|refine Run.reg mixed ?_|refine Run.AJ ?_|refine Run.I8 CC (AM.le_refl _) ?_|(refine AI.mk rfl hc ?_;rintro _ _ ⟨rfl,z,rfl⟩))<;>try simp -implicitDefEqProofs only [Bk hlt,he,hw1,hw2,go_sem])|fail))
       exact hno z (by rw [hres,hs])
    · rw [Ae (by omega)] at hok
      (repeat' (first|refine Run.ct rfl ?_|((first|refine Run.reg mixed ?_|refine Run.AJ ?_|refine Run.I8 CC (AM.le_refl _) ?_)<;>try simp -implicitDefEqProofs only [HQ hlt,go_sem])|fail))
      exact hyes p (by rw [hres,hok])
end Go.Ab
namespace Go.Ab
open Go.Proofs
end Go.Ab
namespace Go.Ab
open Go.Proofs
end Go.Ab
namespace Go.Ab
open Go.Proofs
def kS (c:CE):Prop:=∀t∈c.args,t.size≤1000000
def cL (d:DE):Prop:=∀c∈d.cons,kS c
theorem xG {b c:Bool} (h:b=true↔c=true):AV.d (.bool b)=AV.d (.bool c):=by rw [Gr.2 h]
theorem WY (t:TE) (σ:AM) (h:t.size≤1000000):AQ Tryz.prog 105 [teA t] σ (fun v σ'=>v= .d (.bool (Du 40 t))∧σ'=σ):=by
 refine QM (by simp) ?_
 rw [BO]
 have hc:=TZ 40 (A8 _) t σ h
 rw [show ((41 - 40:Nat):Int)=1 from rfl] at hc
 obtain ⟨k,n,l⟩:=t
 simp only [TE.A2,teA,AD,AG] at hc ⊢
 (repeat' (first|refine Run.ct rfl ?_|((first|refine Run.reg mixed ?_|refine Run.AJ ?_|refine Run.A9 J1 (AM.le_refl _) ?_|refine AI.det (hc) ?_)<;>try simp -implicitDefEqProofs only [go_sem])|fail))
theorem ZB (c:CE) (σ:AM) (h:kS c):AQ Tryz.prog 103 [ceA c] σ (fun v σ'=>v= .d (.bool (Wo c))∧σ'=σ):=by
 refine SL (by simp) ?_
 rw [BO]
 have ha:=MF (fid:=105) (caps:=[]) (by kernel_rfl) rfl (Du 40) c.args σ (fun t ht σ1 _=>WY t σ1 (h t ht))
 obtain ⟨nm,ar⟩:=c
 simp only [CE.enc,ceA,AD,AG] at ha ⊢
 have h6:decide ((ar.length:Int)≤6)=decide (ar.length≤6):=leN _ 6
 (repeat' (first|refine Run.ct rfl ?_|(refine sI (by first|exact GV.t|exact GV.f|exact GV.st|exact GV.sf) ⟨?_,fun h=>?_,?_⟩;rotate_left;(focus ((try simp only [AN,Bool.not_not] at h);simp -implicitDefEqProofs only [AF,h6,go_sem];first|exact Is.mk|exact Is.pv (by simp -implicitDefEqProofs only [h,kR,↓WE,↓Zz,↓WG,AF,h6,go_sem];rfl)|(refine AI.det (B1 nm _) ?_;exact Is.mk)|(refine AI.det (ha) ?_;exact Is.mk)|(refine AI.pN (by simp only [h,kR];rfl) ?_;first|(refine AI.det (B1 nm _) ?_;exact Is.mk)|(refine AI.det (ha) ?_;exact Is.mk))));(try simp -implicitDefEqProofs only [XX,cG,cH,↓WE,↓Zz,↓WG,AF,h6,KV,go_sem]))|((first|refine Run.reg mixed ?_|refine Run.AJ ?_|refine Run.A9 LX (AM.le_refl _) ?_|refine AI.det (B1 nm _) ?_|refine AI.det (ha) ?_)<;>try simp -implicitDefEqProofs only [XX,cG,cH,↓WE,↓Zz,↓WG,AF,h6,go_sem])|fail))
 simp only [Wo]
theorem cS (d:DE) (σ:AM) (h:cL d):AQ Tryz.prog 50 [deA d] σ (fun v σ'=>v= .d (.bool (KG d))∧σ'=σ):=by
 refine UP (by simp) ?_
 rw [BO]
 have ha:=Hn (fid:=51) (caps:=[]) (by kernel_rfl) rfl Hi d.vars σ (fun x _ σ1 _=>Dn x σ1)
 have hc:=Tx (fid:=103) (caps:=[]) (by kernel_rfl) rfl Wo d.cons σ (fun c hc σ1 _=>ZB c σ1 (h c hc))
 obtain ⟨nm,vs,cs⟩:=d
 simp only [DE.enc,deA,AD,AG] at ha hc ⊢
 have h6:decide ((6:Int) < (vs.length:Int))=!decide (vs.length≤6):=gtN _ 6
 have h8:decide ((8:Int) < (cs.length:Int))=!decide (cs.length≤8):=gtN _ 8
 have h1:decide ((cs.length:Int) < 1)=decide (cs.length < 1):=ltN _ 1
 (repeat' (first|refine Run.ct rfl ?_|(refine sI (by first|exact GV.t|exact GV.f|exact GV.st|exact GV.sf) ⟨?_,fun h=>?_,?_⟩;rotate_left;(focus ((try simp only [AN,Bool.not_not] at h);simp -implicitDefEqProofs only [AF,h6,h8,h1,go_sem];first|exact Is.mk|exact Is.pv (by simp -implicitDefEqProofs only [h,kR,↓WE,↓Zz,↓WG,AF,h6,h8,h1,go_sem];rfl)|(refine AI.det (B1 nm _) ?_;exact Is.mk)|(refine AI.det (ha) ?_;exact Is.mk)|(refine AI.det (hc) ?_;exact Is.mk)|(refine AI.pN (by simp only [h,kR];rfl) ?_;first|(refine AI.det (B1 nm _) ?_;exact Is.mk)|(refine AI.det (ha) ?_;exact Is.mk)|(refine AI.det (hc) ?_;exact Is.mk))));(try simp -implicitDefEqProofs only [XX,cG,cH,↓WE,↓Zz,↓WG,AF,h6,h8,h1,MV,go_sem]))|((first|refine Run.reg mixed ?_|refine Run.AJ ?_|refine Run.A9 NM (AM.le_refl _) ?_|refine AI.det (B1 nm _) ?_|refine AI.det (ha) ?_|refine AI.det (hc) ?_)<;>try simp -implicitDefEqProofs only [XX,cG,cH,↓WE,↓Zz,↓WG,AF,h6,h8,h1,go_sem])|(refine ⟨fun h=>?_,fun h=>?_⟩<;>first|(cases h;done)|try simp only [h])|fail))
 all_goals (refine xG ?_;simp [KG] at *;try grind)
set_option maxHeartbeats 4000000 in
theorem Qr (p:Pg) (σ:AM) (h:∀d∈p.data,cL d):AQ Tryz.prog 19 [pgA p] σ (fun v σ'=>v= .d (.bool (Fu p))∧σ'=σ):=by
 obtain ⟨ds,fs⟩:=p
 refine YB (by simp) ?_
 rw [BO,pgA]
 simp only [Pg.enc,AD,AG] at h ⊢
 have h12:decide ((12:Int) < (ds.length:Int))=!decide (ds.length≤12):=gtN _ 12
 have h24:decide ((24:Int) < (fs.length:Int))=!decide (fs.length≤24):=gtN _ 24
 by_cases hd:ds.length≤12
 case neg=>
  (repeat' (first|refine Run.ct rfl ?_|((first|refine Run.reg mixed ?_|refine Run.AJ ?_|refine Run.A9 DL (AM.le_refl _) ?_)<;>try simp -implicitDefEqProofs only [AF,h12,decide_eq_false hd,go_sem])|fail))
  simp [Fu,hd]
 by_cases hf:fs.length≤24
 case neg=>
  (repeat' (first|refine Run.ct rfl ?_|((first|refine Run.reg mixed ?_|refine Run.AJ ?_|refine Run.A9 DL (AM.le_refl _) ?_)<;>try simp -implicitDefEqProofs only [AF,h12,decide_eq_true hd,h24,decide_eq_false hf,go_sem])|fail))
  simp [Fu,hf]
 have hres:Fu ⟨ds,fs⟩=(ds.all KG&&(fs.foldlM ZA 600).isSome):=by simp [Fu,hd,hf]
 (repeat' (first|refine Run.ct rfl ?_|((first|refine Run.reg mixed ?_|refine Run.AJ ?_)<;>try simp -implicitDefEqProofs only [AF,h12,decide_eq_true hd,h24,decide_eq_true hf,go_sem])|fail))
 refine Run.Bl ?_
 refine Run.Bm ((fun (a1:AV) (a19:AV) (a20:AV)=>fun (i:Nat)=>put 1 a1 (put 19 a19 (put 20 a20 (put 21 (.d (.int .i64 i)) U)))) _ _ _) (fun _=>B6 1 [.d (.sl (ds.map DE.enc)),.d (.sl (fs.map FE.enc))] E) (fun _=>σ) (fun i=>i≤ds.length∧(ds.take i).all KG=true) (fun i=>ds.length - i) ?_ 0 ⟨by simp,by simp⟩
 rintro i ⟨hi,hok⟩ ih
 by_cases hlt:i < ds.length
 · obtain ⟨x,hx⟩:=B4 hlt
   have he:=BK (enc:=DE.enc) hx
   have hw1:=Cg (show i+1≤9000000000000000000 by omega)
   have hc:=cS x σ (h x (A6 hx))
   cases hp:KG x with
   |true=>
    have hs:=oP hok hx hp
    rw [hp] at hc
    obtain ⟨nm,vs,cs⟩:=x
    simp only [DE.enc,deA,AD,AG] at he hc
    (repeat' (first|refine Run.ct rfl ?_|((first|refine Run.reg mixed ?_|refine Run.AJ ?_|refine AI.det (hc) ?_)<;>try simp -implicitDefEqProofs only [Bk hlt,he,hw1,go_sem])|fail))
    exact ih (i+1) ⟨by omega,hs⟩ (by omega)
   |false=>
    have hs:=w7 (p:=KG) hx hp
    rw [hp] at hc
    obtain ⟨nm,vs,cs⟩:=x
    simp only [DE.enc,deA,AD,AG] at he hc
    (repeat' (first|refine Run.ct rfl ?_|((first|refine Run.reg mixed ?_|refine Run.AJ ?_|refine Run.A9 DL (AM.le_refl _) ?_|refine AI.det (hc) ?_)<;>try simp -implicitDefEqProofs only [Bk hlt,he,hw1,go_sem])|fail))
    rw [hres,hs];rfl
 · rw [Ae (by omega)] at hok
   rw [hok,DD] at hres
   clear ih
   (repeat' (first|refine Run.ct rfl ?_|((first|refine Run.reg mixed ?_|refine Run.AJ ?_)<;>try simp -implicitDefEqProofs only [HQ hlt,go_sem])|fail))
   intro j hj
   have hle:=FM (cs:=[AV.d (.int .i64 0)]) hj
   (repeat' (first|refine Run.ct rfl ?_|((first|refine Run.reg mixed ?_|refine Run.AJ ?_)<;>try simp -implicitDefEqProofs only [AF,go_sem])|fail))
   refine Run.Bl ?_
   refine Run.Bm ((fun (a5:AV) (a32:AV) (a33:AV)=>fun (y:Nat×Nat)=>put 5 a5 (put 32 a32 (put 33 a33 (put 34 (.d (.int .i64 y.1)) U)))) _ _ _) (fun _=>E) (fun y=>σ.AL j [.d (.int .i64 (M3 y.2))])
    (fun y=>y.1≤fs.length∧y.2≤600∧(fs.take y.1).foldlM ZA 600=some y.2) (fun y=>fs.length - y.1) ?_ (0,600) ⟨by simp,by simp,rfl⟩
   rintro ⟨i,q⟩ ⟨hi,hq,hok⟩ ih
   simp only at hi hq hok
   by_cases hlt:i < fs.length
   · obtain ⟨x,hx⟩:=B4 hlt
     have he:=BK (enc:=FE.enc) hx
     have hw1:=Cg (show i+1≤9000000000000000000 by omega)
     have hnm:=Dn x.name (σ.AL j [.d (.int .i64 (M3 q))])
     have hps:=Hn (fid:=51) (caps:=[]) (by kernel_rfl) rfl Hi x.params (σ.AL j [.d (.int .i64 (M3 q))]) (fun x _ σ1 _=>Dn x σ1)
     have h6:decide ((6:Int) < (x.params.length:Int))=!decide (x.params.length≤6):=gtN _ 6
     have hc:=Wp j 40 q (A8 _) hq x.body (σ.AL j [.d (.int .i64 (M3 q))]) (by simp only [AO,if_true])
     rw [show ((41 - 40:Nat):Int)=1 from rfl] at hc
     have hno:ZA q x=none→fs.foldlM ZA 600=none:=fun h=>UJ hok hx h
     have hyes:∀r,ZA q x=some r→(fs.take (i+1)).foldlM ZA 600=some r:=fun r h=>by rw [UK hok hx,h]
     have hvf:ZA q x=if Hi x.name&&decide (x.params.length≤6)&&x.params.all Hi then vEx 40 q x.body else none:=rfl
     cases h1:Hi x.name with
     |false=>
      rw [h1] at hnm hvf
      obtain ⟨nm,ps,o,n,u,ns,ks,al⟩:=x
      simp only [FE.enc,Ex.A2] at he hnm
      (repeat' (first|refine Run.ct rfl ?_|((first|refine Run.reg mixed ?_|refine Run.AJ ?_|(refine Run.A9 DL (σ2:=σ) (FM hj) ?_)|refine AI.det (hnm) ?_)<;>try simp -implicitDefEqProofs only [Bk hlt,he,go_sem])|fail))
      rw [hres,hno hvf];rfl
     |true=>
     by_cases h2:x.params.length≤6
     case neg=>
      rw [decide_eq_false h2] at h6
      rw [h1,decide_eq_false h2] at hvf
      rw [h1] at hnm
      obtain ⟨nm,ps,o,n,u,ns,ks,al⟩:=x
      simp only [FE.enc,Ex.A2] at he hnm h6
      (repeat' (first|refine Run.ct rfl ?_|((first|refine Run.reg mixed ?_|refine Run.AJ ?_|(refine Run.A9 DL (σ2:=σ) (FM hj) ?_)|refine AI.det (hnm) ?_)<;>try simp -implicitDefEqProofs only [Bk hlt,he,AF,h6,go_sem])|fail))
      rw [hres,hno hvf];rfl
     rw [decide_eq_true h2] at h6
     cases h3:x.params.all Hi with
     |false=>
      rw [h1,h3] at hvf
      rw [Bool.and_false] at hvf
      rw [h1] at hnm
      rw [h3] at hps
      obtain ⟨nm,ps,o,n,u,ns,ks,al⟩:=x
      simp only [FE.enc,Ex.A2] at he hnm h6 hps
      (repeat' (first|refine Run.ct rfl ?_|((first|refine Run.reg mixed ?_|refine Run.AJ ?_|(refine Run.A9 DL (σ2:=σ) (FM hj) ?_)|refine AI.det (hnm) ?_|refine AI.det (hps) ?_)<;>try simp -implicitDefEqProofs only [Bk hlt,he,AF,h6,go_sem])|fail))
      rw [hres,hno hvf];rfl
     |true=>
     rw [h1,h3,decide_eq_true h2] at hvf
     rw [h1] at hnm
     rw [h3] at hps
     cases hv:vEx 40 q x.body with
     |some r=>
      have hr:=Yy _ _ _ _ hv
      rw [hv] at hvf
      have hc:=VXQ.yes hc hv
      have hs:=hyes r hvf
      obtain ⟨nm,ps,o,n,u,ns,ks,al⟩:=x
      simp only [FE.enc,Ex.A2,exA,AD,AG] at he hnm h6 hps hc
      (repeat' (first|refine Run.ct rfl ?_|((first|refine Run.reg mixed ?_|refine Run.AJ ?_|(refine AI.mk rfl hc ?_;rintro _ _ ⟨rfl,rfl⟩)|refine AI.det (hnm) ?_|refine AI.det (hps) ?_)<;>try simp -implicitDefEqProofs only [Bk hlt,he,hw1,AF,h6,go_sem])|fail))
      exact ih (i+1,r) ⟨by simp only;omega,by simp only;omega,hs⟩ (by simp only;omega)
     |none=>
      rw [hv] at hvf
      have hc:=VXQ.no hc hv
      obtain ⟨nm,ps,o,n,u,ns,ks,al⟩:=x
      simp only [FE.enc,Ex.A2,exA,AD,AG] at he hnm h6 hps hc
      (repeat' (first|refine Run.ct rfl ?_|((first|refine Run.reg mixed ?_|refine Run.AJ ?_|(refine AI.mk rfl hc ?_;rintro _ _ ⟨rfl,z,rfl⟩)|(refine Run.A9 DL (σ2:=σ) (FM hj) ?_)|refine AI.det (hnm) ?_|refine AI.det (hps) ?_)<;>try simp -implicitDefEqProofs only [Bk hlt,he,hw1,AF,h6,go_sem])|fail))
      rw [hres,hno hvf];rfl
   · rw [Ae (by omega)] at hok
     (repeat' (first|refine Run.ct rfl ?_|((first|refine Run.reg mixed ?_|refine Run.AJ ?_|(refine Run.A9 DL (σ2:=σ) (FM hj) ?_))<;>try simp -implicitDefEqProofs only [HQ hlt,go_sem])|fail))
     rw [hres,hok];rfl
end Go.Ab
namespace Go.Ab
open Go.Proofs
theorem sX:Am Tryz.prog 82=true:=by kernel_rfl
theorem y5:Am Tryz.prog 84=true:=by kernel_rfl
theorem vJ:Am Tryz.prog 80=true:=by kernel_rfl
theorem sY {i:Nat} (j:Nat) {c:CE} (h:Wo c=true):
 WX (fun σ=>σ.blk j=some [.gp i 0]) 82 ([]++[ceA c]++[.gp j 0]) i (fmtC c):=by
 intro σ0 σ s hH0 hb0 hlen
 have hjs:=hH0.1
 have hH:(fun _=>True) σ0∧σ0.gt SX=some UZ:=⟨trivial,hH0.2⟩
 obtain ⟨n,l⟩:=c
 simp only [Wo,AN,decide_eq_true_eq,A5] at h
 have hop:=IC (H:=fun _=>True) i (first:=[.gp i 0]) (caps:=[]) y5 ⟨rfl,rfl⟩ Ct l (fun x hx=>sB i 40 x (h.2 x hx))
 refine PB (by simp) ?_
 show Run _ _ _ (Ao [_,_]) _ _
 rw [Ax]
 rw [fmtC] at hlen ⊢
 simp only [ceA,CE.enc,AD,AG] at hlen ⊢
 (repeat' (first|refine Run.ct rfl ?_|((first|refine Run.reg mixed ?_|refine Run.AJ ?_|(refine AI.mk rfl (A4 n hb0 (by (try simp only [AE,AA,AH] at hlen ⊢);omega)) ?_;rintro _ σ1 ⟨rfl,hb1⟩)|(refine AP rfl (fun h=>?_) (fun h=>?_)<;>try (cases h;done)))<;>try simp -implicitDefEqProofs only [(hb0.le.blk j _ hjs),go_sem])|(refine ⟨fun h=>?_,fun h=>?_⟩<;>first|(cases h;done)|try simp only [h])|fail))
 try simp -implicitDefEqProofs only [(hb1.le.blk j _ hjs),go_sem]
 (repeat' (first|refine Run.ct rfl ?_|((first|refine Run.reg mixed ?_|refine Run.AJ ?_|(refine AI.mk rfl (hop σ0 σ1 _ hH hb1 (by (try simp only [AE,AA,AH] at hlen ⊢);omega)) ?_;rintro _ σ2 ⟨rfl,hb2⟩)|(refine AP rfl (fun h=>?_) (fun h=>?_)<;>try (cases h;done)))<;>try simp -implicitDefEqProofs only [(hb1.le.blk j _ hjs),go_sem])|(refine ⟨fun h=>?_,fun h=>?_⟩<;>first|(cases h;done)|try simp only [h])|fail))
 try simp only [AT,AX,A0,AZ] at hb2 ⊢
 exact Run.fin Im rfl (fun _ _ h=>h) (AM.le_refl _) ⟨rfl,hb2⟩
theorem s9 {i:Nat} {d:DE} (h:KG d=true):WC 42 [.gp i 0,deA d] i (UI d):=by
 intro σ0 σ s hH hbu hlen
 obtain ⟨n,vs,cs⟩:=d
 simp only [KG,AN,decide_eq_true_eq,A5] at h
 have hvs:=NX (H:=fun _=>True) i (first:=[.gp i 0]) (caps:=[]) vJ ⟨rfl,rfl⟩ id vs (fun x _=>vK i x)
 rw [List.map_id] at hvs
 refine RF (by simp) ?_
 rw [Ax]
 rw [UI] at hlen ⊢
 simp only [deA,DE.enc,AD,AG] at hlen ⊢
 (repeat' (first|refine Run.ct rfl ?_|((first|refine Run.reg mixed ?_|refine Run.AJ ?_|(refine AP rfl (fun h=>?_) (fun h=>?_)<;>try (cases h;done)))<;>try simp -implicitDefEqProofs only [go_sem])|(refine ⟨fun h=>?_,fun h=>?_⟩<;>first|(cases h;done)|try simp only [h])|fail))
 intro j hj
 have hun:∀s' σ',BuS (σ0.AL j [.gp i 0]) i s' σ'→BuS σ0 i s' σ':=fun s' σ' h=>hbu.kW hj h
 have hjs:(σ0.AL j [.gp i 0]).blk j=some [.gp i 0]:=by simp [AO]
 have hH:(fun _=>True) (σ0.AL j [.gp i 0])∧(σ0.AL j [.gp i 0]).gt SX=some UZ:=⟨trivial,hH.2⟩
 have hb0:=hbu.share (cs:=[.gp i 0]) hj
 generalize σ.AL j [.gp i 0]=τ at hb0 ⊢
 generalize σ0.AL j [.gp i 0]=τ0 at hun hjs hH hb0
 have hHj:(fun σ=>σ.blk j=some [.gp i 0]) τ0∧τ0.gt SX=some UZ:=⟨hjs,hH.2⟩
 have hsep:=Oc (H:=fun σ=>σ.blk j=some [.gp i 0]) i (first:=[]) (caps:=[.gp j 0]) sX ⟨rfl,rfl⟩ [32,124,32] fmtC cs (fun x hx=>sY j (h.2 x hx))
 have ha1:=HU (a:=[100,97,116,97,32]) (b:=n) (by simp only [AA,AE,AH] at hlen ⊢;omega)
 simp only [AX,A0] at ha1
 (repeat' (first|refine Run.ct rfl ?_|((first|refine Run.reg mixed ?_|refine Run.AJ ?_|(refine AI.mk rfl (A4 _ hb0 (by (try simp only [AE,AA,AH] at hlen ⊢);omega)) ?_;rintro _ σ1 ⟨rfl,hb1⟩)|(refine AP rfl (fun h=>?_) (fun h=>?_)<;>try (cases h;done)))<;>try simp -implicitDefEqProofs only [ha1,(hb0.le.blk j _ hjs),go_sem])|(refine ⟨fun h=>?_,fun h=>?_⟩<;>first|(cases h;done)|try simp only [h])|fail))
 try simp -implicitDefEqProofs only [(hb1.le.blk j _ hjs),go_sem]
 (repeat' (first|refine Run.ct rfl ?_|((first|refine Run.reg mixed ?_|refine Run.AJ ?_|(refine AI.mk rfl (hvs τ0 σ1 _ hH hb1 (by (try simp only [AE,AA,AH] at hlen ⊢);omega)) ?_;rintro _ σ2 ⟨rfl,hb2⟩)|(refine AP rfl (fun h=>?_) (fun h=>?_)<;>try (cases h;done)))<;>try simp -implicitDefEqProofs only [ha1,(hb1.le.blk j _ hjs),go_sem])|(refine ⟨fun h=>?_,fun h=>?_⟩<;>first|(cases h;done)|try simp only [h])|fail))
 try simp -implicitDefEqProofs only [(hb2.le.blk j _ hjs),go_sem]
 (repeat' (first|refine Run.ct rfl ?_|((first|refine Run.reg mixed ?_|refine Run.AJ ?_|(refine AI.mk rfl (A4 [32,61,32] hb2 (by (try simp only [AE,AA,AH] at hlen ⊢);omega)) ?_;rintro _ σ3 ⟨rfl,hb3⟩)|(refine AP rfl (fun h=>?_) (fun h=>?_)<;>try (cases h;done)))<;>try simp -implicitDefEqProofs only [ha1,(hb2.le.blk j _ hjs),go_sem])|(refine ⟨fun h=>?_,fun h=>?_⟩<;>first|(cases h;done)|try simp only [h])|fail))
 try simp -implicitDefEqProofs only [(hb3.le.blk j _ hjs),go_sem]
 (repeat' (first|refine Run.ct rfl ?_|((first|refine Run.reg mixed ?_|refine Run.AJ ?_|(refine AI.mk rfl (hsep τ0 σ3 _ hHj hb3 (by (try simp only [AE,AA,AH] at hlen ⊢);omega)) ?_;rintro _ σ4 ⟨rfl,hb4⟩)|(refine AP rfl (fun h=>?_) (fun h=>?_)<;>try (cases h;done)))<;>try simp -implicitDefEqProofs only [ha1,(hb3.le.blk j _ hjs),go_sem])|(refine ⟨fun h=>?_,fun h=>?_⟩<;>first|(cases h;done)|try simp only [h])|fail))
 try simp -implicitDefEqProofs only [(hb4.le.blk j _ hjs),go_sem]
 (repeat' (first|refine Run.ct rfl ?_|((first|refine Run.reg mixed ?_|refine Run.AJ ?_|(refine AI.mk rfl (A4 [59,10] hb4 (by (try simp only [AE,AA,AH] at hlen ⊢);omega)) ?_;rintro _ σ5 ⟨rfl,hb5⟩)|(refine AP rfl (fun h=>?_) (fun h=>?_)<;>try (cases h;done)))<;>try simp -implicitDefEqProofs only [ha1,(hb4.le.blk j _ hjs),go_sem])|(refine ⟨fun h=>?_,fun h=>?_⟩<;>first|(cases h;done)|try simp only [h])|fail))
 try simp only [AT,AX,A0,AZ] at hb5 ⊢
 exact Run.fin KM rfl (fun _ _ h=>h) (AM.le_refl _) ⟨rfl,hun _ _ hb5⟩
theorem aJ {α:Type} {f:α→Str} {l:List α} {k:Nat} {x:α} (h:l[k]?=some x):((l.take (k+1)).map f).flatten=((l.take k).map f).flatten++f x:=by
 rw [Ft h];simp
theorem Yu {α:Type} (f:α→Str) (l:List α) (k:Nat):((l.take k).map f).flatten.length≤(l.map f).flatten.length:=by
 have:((l.map f).flatten).length=((l.take k).map f).flatten.length+((l.drop k).map f).flatten.length:=by
  rw [← AA,← MZ,← Bn,Ek]
 omega
set_option maxHeartbeats 4000000 in
theorem WT (p:Pg) (σ:AM) (hp:σ.gt SX=some UZ) (hs:∀d∈p.data,∀c∈d.cons,∀t∈c.args,t.size≤100000):
 AQ Tryz.prog 17 [pgA p] σ (fun v σ'=>v= .d (.str (if Fu p then ZP p else []))∧σ'=σ):=by
 have hv:=Qr p σ (fun d hd c hc t ht=>BC (hs d hd c hc t ht) (by decide))
 refine Wq (by simp) ?_
 rw [BO]
 cases hval:Fu p with
 |false=>
  rw [hval] at hv
  obtain ⟨ds,fs⟩:=p
  simp only [pgA,Pg.enc,AD,AG,A1,if_false] at hv ⊢
  (repeat' (first|refine Run.ct rfl ?_|((first|refine Run.reg mixed ?_|refine Run.AJ ?_|(refine Run.A9 Lo (σ2:=σ) (AM.le_refl _) ?_)|refine AI.det (hv) ?_|(refine AP rfl (fun h=>?_) (fun h=>?_)<;>try (cases h;done)))<;>try simp -implicitDefEqProofs only [go_sem])|(refine ⟨fun h=>?_,fun h=>?_⟩<;>first|(cases h;done)|try simp only [h])|fail))
 |true=>
 rw [hval] at hv
 have hlen:=tH hval hs
 obtain ⟨⟨hd12,hda⟩,hf24,hfa⟩:=Wh hval
 obtain ⟨ds,fs⟩:=p
 simp only [pgA,Pg.enc,AD,AG,if_true] at hv hd12 hda hf24 hfa ⊢
 rw [ZP,AA] at hlen
 simp only at hlen
 (repeat' (first|refine Run.ct rfl ?_|((first|refine Run.reg mixed ?_|refine Run.AJ ?_|(refine XEx.dB rfl rfl rfl (fun i hi=>?_))|refine AI.det (hv) ?_|(refine AP rfl (fun h=>?_) (fun h=>?_)<;>try (cases h;done)))<;>try simp -implicitDefEqProofs only [AF,go_sem])|(refine ⟨fun h=>?_,fun h=>?_⟩<;>first|(cases h;done)|try simp only [h])|fail))
 have hbu0:=lK hi
 have hbk0:((σ.AL i [.FK,.AW]).Gq i (2,87)).blk i=some [.FK,.AW]:=by simp [AM.Gq,AM.AL]
 generalize (σ.AL i [AV.FK,.AW]).Gq i (2,87)=τ0 at hbu0 hbk0 ⊢
 (repeat' (first|refine Run.ct rfl ?_|((first|refine Run.reg mixed ?_|refine Run.AJ ?_|(refine AP rfl (fun h=>?_) (fun h=>?_)<;>try (cases h;done)))<;>try simp -implicitDefEqProofs only [AF,go_sem])|(refine ⟨fun h=>?_,fun h=>?_⟩<;>first|(cases h;done)|try simp only [h])|fail))
 refine Run.Bl ?_
 refine Run.Bm ((fun (a1:AV) (a3:AV) (a14:AV) (a15:AV)=>fun (y:Nat×List UInt8×AM)=>put 1 a1 (put 3 a3 (put 14 a14 (put 15 a15 (put 16 (.d (.int .i64 y.1)) U))))) _ _ _ _) (fun _=>B6 1 [.d (.sl (ds.map DE.enc)),.d (.sl (fs.map FE.enc))] E) (fun y=>y.2.2)
  (fun y=>y.1≤ds.length∧BuS σ i y.2.1 y.2.2∧y.2.1=((ds.take y.1).map UI).flatten∧(y.2.1=[]→∃p,y.2.2.blk i=some [p,.AW])) (fun y=>ds.length - y.1) ?_ (0,[],τ0) ⟨by simp,hbu0,by simp,fun _=>⟨_,hbk0⟩⟩
 rintro ⟨k,s1,τ⟩ ⟨hk,hb1,hs1,he1⟩ ih
 simp only at hk hb1 hs1 he1
 by_cases hlt:k < ds.length
 · obtain ⟨d,hd⟩:=B4 hlt
   have he:=BK (enc:=DE.enc) hd
   have hw1:IntKind.i64.wrap ((k:Int)+1)=((k+1:Nat):Int):=by rw [Au (by omega) (by omega)];omega
   have hdo:=s9 (i:=i) (hda d (A6 hd))
   have htf:=aJ (f:=UI) hd
   have hle:=Yu UI ds (k+1)
   have hne:UI d≠[]:=by rw [UI];simp
   rw [htf,← hs1,AA] at hle
   have hc:=hdo σ τ s1 ⟨trivial,hp⟩ hb1 (by omega)
   generalize UI d=x at hc htf hne hle
   obtain ⟨n,vs,cs⟩:=d
   simp only [deA,DE.enc,AD,AG] at he hc
   (repeat' (first|refine Run.ct rfl ?_|((first|refine Run.reg mixed ?_|refine Run.AJ ?_|(refine AI.mk rfl hc ?_;rintro _ σ1 ⟨rfl,hb2⟩)|(refine AP rfl (fun h=>?_) (fun h=>?_)<;>try (cases h;done)))<;>try simp -implicitDefEqProofs only [Bk hlt,he,hw1,AF,go_sem])|(refine ⟨fun h=>?_,fun h=>?_⟩<;>first|(cases h;done)|try simp only [h])|fail))
   (repeat' (first|refine Run.ct rfl ?_|((first|refine Run.reg mixed ?_|refine Run.AJ ?_|(refine AP rfl (fun h=>?_) (fun h=>?_)<;>try (cases h;done)))<;>try simp -implicitDefEqProofs only [hw1,go_sem])|(refine ⟨fun h=>?_,fun h=>?_⟩<;>first|(cases h;done)|try simp only [h])|fail))
   exact ih (k+1,_,σ1) ⟨by simp only;omega,hb2,by simp only;rw [htf,hs1],fun h=>absurd (List.append_eq_nil_iff.1 h).2 hne⟩ (by simp only;omega)
 have hke:k=ds.length:=by omega
 rw [hke,List.take_length] at hs1
 (repeat' (first|refine Run.ct rfl ?_|((first|refine Run.reg mixed ?_|refine Run.AJ ?_|(refine AP rfl (fun h=>?_) (fun h=>?_)<;>try (cases h;done)))<;>try simp -implicitDefEqProofs only [HQ hlt,AF,go_sem])|(refine ⟨fun h=>?_,fun h=>?_⟩<;>first|(cases h;done)|try simp only [h])|fail))
 refine Run.Bl ?_
 refine Run.Bm ((fun (a3:AV) (a25:AV) (a26:AV)=>fun (y:Nat×List UInt8×AM)=>put 3 a3 (put 25 a25 (put 26 a26 (put 27 (.d (.int .i64 y.1)) U)))) _ _ _) (fun _=>E) (fun y=>y.2.2)
  (fun y=>y.1≤fs.length∧BuS σ i y.2.1 y.2.2∧y.2.1=(ds.map UI).flatten++((fs.take y.1).map Vn).flatten∧(y.2.1=[]→∃p,y.2.2.blk i=some [p,.AW])) (fun y=>fs.length - y.1) ?_ (0,s1,τ) ⟨by simp,hb1,by simp [hs1],he1⟩
 rintro ⟨q,s2,τ2⟩ ⟨hq,hq1,hs2,he2⟩ ih2
 simp only at hq hq1 hs2 he2
 by_cases hlt2:q < fs.length
 · obtain ⟨d,hd⟩:=B4 hlt2
   have he:=BK (enc:=FE.enc) hd
   have hw1:IntKind.i64.wrap ((q:Int)+1)=((q+1:Nat):Int):=by rw [Au (by omega) (by omega)];omega
   obtain ⟨hhd,hnb,hsz⟩:=hfa d (A6 hd)
   have htf:=aJ (f:=Vn) hd
   have hle:=Yu Vn fs (q+1)
   have hne:Vn d≠[]:=by rw [Vn];simp
   rw [htf,AA] at hle
   have hl2:s2.length+(Vn d).length≤10000000000:=by rw [hs2,AA];omega
   have hex:=aY i d.body hnb 0
   unfold EC at hex
   rw [pl,if_neg (by omega)] at hex
   rw [Vn] at hl2 htf hne
   simp only [OF,AN,decide_eq_true_eq] at hhd
   obtain ⟨n,ps,b⟩:=d
   simp only at hl2 htf hne hex hhd
   generalize BA b=tb at *
   obtain ⟨ob,nb,ub,nsb,ksb,alb⟩:=b
   simp only [exA,FE.enc,Ex.A2,AD,AG,AX,A0] at he hex
   have hlen2:=hl2
   simp only [Iz,J7,cms,AA,AE,AH] at hlen2
   have hjn:=fun σ=>jO ps [44,32] σ (by omega) (by omega)
   have ha1:=HU (a:=[102,117,110,32]) (b:=n) (by simp only [AA,AE,AH];omega)
   have ha2:=HU (a:=[102,117,110,32]++n) (b:=[40]) (by simp only [AA,AE,AH];omega)
   have ha3:=HU (a:=[102,117,110,32]++n++[40]) (b:=Lib.join ps [44,32]) (by simp only [AA,AE,AH];omega)
   have ha4:=HU (a:=[102,117,110,32]++n++[40]++Lib.join ps [44,32]) (b:=[41,32,61,32]) (by simp only [AA,AE,AH];omega)
   simp only [AX,A0] at ha1 ha2 ha3 ha4
   (repeat' (first|refine Run.ct rfl ?_|((first|refine Run.reg mixed ?_|refine Run.AJ ?_|(refine AI.mk rfl (A4 _ hq1 (by simp only [AA,AE,AH];omega)) ?_;rintro _ σ1 ⟨rfl,hb2⟩)|refine AI.det (hjn _) ?_|(refine AP rfl (fun h=>?_) (fun h=>?_)<;>try (cases h;done)))<;>try simp -implicitDefEqProofs only [Bk hlt2,he,hw1,ha1,ha2,ha3,ha4,AF,go_sem])|(refine ⟨fun h=>?_,fun h=>?_⟩<;>first|(cases h;done)|try simp only [h])|fail))
   (repeat' (first|refine Run.ct rfl ?_|((first|refine Run.reg mixed ?_|refine Run.AJ ?_|(refine AI.mk rfl (hex σ σ1 _ ⟨trivial,hp⟩ hb2 (by simp only [AA,AE,AH];omega)) ?_;rintro _ σ2 ⟨rfl,hb3⟩)|(refine AP rfl (fun h=>?_) (fun h=>?_)<;>try (cases h;done)))<;>try simp -implicitDefEqProofs only [hw1,go_sem])|(refine ⟨fun h=>?_,fun h=>?_⟩<;>first|(cases h;done)|try simp only [h])|fail))
   (repeat' (first|refine Run.ct rfl ?_|((first|refine Run.reg mixed ?_|refine Run.AJ ?_|(refine AI.mk rfl (A4 _ hb3 (by simp only [AA,AE,AH];omega)) ?_;rintro _ σ3 ⟨rfl,hb4⟩)|(refine AP rfl (fun h=>?_) (fun h=>?_)<;>try (cases h;done)))<;>try simp -implicitDefEqProofs only [hw1,go_sem])|(refine ⟨fun h=>?_,fun h=>?_⟩<;>first|(cases h;done)|try simp only [h])|fail))
   (repeat' (first|refine Run.ct rfl ?_|((first|refine Run.reg mixed ?_|refine Run.AJ ?_|(refine AP rfl (fun h=>?_) (fun h=>?_)<;>try (cases h;done)))<;>try simp -implicitDefEqProofs only [hw1,go_sem])|(refine ⟨fun h=>?_,fun h=>?_⟩<;>first|(cases h;done)|try simp only [h])|fail))
   refine ih2 (q+1,_,σ3) ⟨by simp only;omega,hb4,?_,fun h=>?_⟩ (by simp only;omega)
   · simp only
     rw [htf,hs2]
     simp [Iz,J7,cms]
   · simp at h
 have hqe:q=fs.length:=by omega
 rw [hqe,List.take_length] at hs2
 have hst:=k6 hq1 he2
 (repeat' (first|refine Run.ct rfl ?_|((first|refine Run.reg mixed ?_|refine Run.AJ ?_|(refine AI.mk rfl hst ?_;rintro _ σ1 ⟨rfl,hle1⟩)|(refine Run.A9 Lo (σ2:=σ) hle1 ?_)|(refine AP rfl (fun h=>?_) (fun h=>?_)<;>try (cases h;done)))<;>try simp -implicitDefEqProofs only [HQ hlt2,AF,go_sem])|(refine ⟨fun h=>?_,fun h=>?_⟩<;>first|(cases h;done)|try simp only [h])|fail))
 rw [hs2];rfl
end Go.Ab
