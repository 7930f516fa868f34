/- Valid expressions. Valid expressions, as the reference looks at them. Valid expressions, as the reference looks at them: the nodes. Valid programs. The printer: declarations, programs. Conditions: none. -/
import Derived.Test.YtifplkldbbcldaaGreatDoorXRh
set_option linter.unusedSimpArgs false
set_option linter.unusedVariables false
set_option maxRecDepth 4000
set_option maxHeartbeats 8000000
open List renaming take_append_drop→DL,mem_cons_of_mem→Ae,mem_cons_self→A9,map_cons→AE,map_nil→AH,length_map→AI,take_of_length_le→Ar,mem_of_getElem?→Ah,all_eq_true→A4,length_cons→AD,length_append→AA,length_nil→AF,append_assoc→AR,cons_append→AU,nil_append→A6,append_nil→A0,flatten_append→LQ,map_append→B1
open Option renaming bind_eq_bind→AS,bind_eq_some_iff→AB,bind_some→B0
open Nat renaming le_refl→A7,le_trans→Az
open Bool renaming eq_iff_iff→IF,and_eq_true→AK,true_and→Cl,false_eq_true→AY
namespace Go.Ab
open Go.Proofs
section
variable {α β:Type}
theorem S8 {f:β→α→Option β} {l:List α} {i:Nat} {x:α} {a b:β} (h:(l.take i).foldlM f a=some b) (hx:l[i]?=some x):(l.take (i+1)).foldlM f a=f b x:=by
 rw [Jg hx,List.foldlM_append,h]
 simp [List.foldlM]
theorem S7 {f:β→α→Option β} {l:List α} {i:Nat} {x:α} {a b:β} (h:(l.take i).foldlM f a=some b) (hx:l[i]?=some x) (hn:f b x=none):l.foldlM f a=none:=by
 conv=>lhs;rw [← DL i l]
 rw [List.foldlM_append,h,IZ hx]
 simp [List.foldlM,hn]
theorem Vv {f:Nat→α→Option Nat}:∀(l:List α) (a b:Nat),(∀x∈l,∀a b,f a x=some b→b≤a)→l.foldlM f a=some b→b≤a
 |[],a,b,_,h=>by simp [List.foldlM] at h;omega
 |x::l,a,b,hf,h=>by
  simp only [List.foldlM,AS,AB] at h
  obtain ⟨c,hc,h⟩:=h
  have:=Vv l c b (fun y hy=>hf y (Ae _ hy)) h
  have:=hf x (A9 ..) a c hc
  omega
end
theorem XB:∀(d q:Nat) (e:Ex) (r:Nat),vEx d q e=some r→r≤q
 |0,q,e,r,h=>by cases h
 |d+1,0,.mk ..,r,h=>by cases h
 |d+1,q+1,.mk o n u ns ks al,r,h=>by
  simp only [vEx] at h
  split at h
  · simp only [AB] at h
    obtain ⟨c,hc,h⟩:=h
    have h1:=Vv ks q c (fun x _ a b hab=>XB d a x b hab) hc
    have h2:=Vv al c r (fun x _ a b hab=>by cases x;exact XB d a _ b hab) h
    omega
  · cases h
def VXQ (enc:Nat→Int) (j d q:Nat) (e:Ex) (σ:AN) (v:AV) (σ':AN):Prop:=
 ∃b z,v= .d (.bool b)∧σ'=σ.AL j [.d (.int .i64 z)]∧b=(vEx d q e).isSome∧∀r,vEx d q e=some r→z=enc r
theorem VXQ.yes {enc:Nat→Int} {j d q:Nat} {e:Ex} {σ:AN} {P:Program} {f:FuncId} {args:List AV} {r:Nat} (h:AT P f args σ (VXQ enc j d q e σ)) (hr:vEx d q e=some r):AT P f args σ (fun v σ'=>v= .d (.bool true)∧σ'=σ.AL j [.d (.int .i64 (enc r))]):=
 h.mono (by
  rintro v σ' ⟨b,z,rfl,rfl,rfl,h⟩
  rw [h r hr,hr];exact ⟨rfl,rfl⟩)
theorem VXQ.no {enc:Nat→Int} {j d q:Nat} {e:Ex} {σ:AN} {P:Program} {f:FuncId} {args:List AV} (h:AT P f args σ (VXQ enc j d q e σ)) (hr:vEx d q e=none):AT P f args σ (fun v σ'=>v= .d (.bool false)∧∃z,σ'=σ.AL j [.d (.int .i64 z)]):=
 h.mono (by
  rintro v σ' ⟨b,z,rfl,rfl,rfl,h⟩
  rw [hr];exact ⟨rfl,z,rfl⟩)
def fK (d:Nat):Nat→Ex→Option Nat:=fun q e=>vEx d q e
def fA (d:Nat):Nat→Al→Option Nat:=fun q a=>match a with| .mk _ _ b=>vEx d q b
theorem XC (d q:Nat) (o:Int) (n:Str) (u:Int) (ns:List Str) (ks:List Ex) (al:List Al):vEx (d+1) (q+1) (.mk o n u ns ks al)=if Gc o n u ns ks.length al then (ks.foldlM (fK d) q).bind fun q=>al.foldlM (fA d) q else none:=rfl
def LW (r:Nat):Int:=((600 - r:Nat):Int)
set_option maxHeartbeats 4000000 in
theorem VA (j:Nat):∀(d q:Nat),d≤40→q≤600→∀(e:Ex) (σ:AN),σ.blk j=some [.d (.int .i64 (LW q))]→
 AT Tryz.prog 53 [.gp j 0,exA e,.d (.int .i64 ((41 - d:Nat):Int))] σ (VXQ LW j d q e σ):=by
 intro d
 induction d with
 |zero=>
  intro q _ hq e σ hj
  obtain ⟨o,n,u,ns,ks,al⟩:=e
  refine JT (by simp) ?_
  rw [II,exA,Ex.A3]
  have hw:IntKind.i64.wrap (LW q+1)=((601 - q:Nat):Int):=by rw [LW,BJ (by omega) (by omega)];omega
  have h4:decide ((40:Int) < ((41 - 0:Nat):Int))=true:=by decide
  (repeat' (first|refine Run.ct rfl ?_|((first|refine Run.reg mixed ?_|refine Run.AM ?_|refine Run.Ih Bu (AN.le_refl _) ?_|(refine AQ rfl (fun h=>?_) (fun h=>?_)<;>try (cases h;done)))<;>try simp -implicitDefEqProofs only [hj,hw,h4,go_sem])|fail))
  all_goals exact ⟨false,_,rfl,rfl,rfl,fun r h=>by cases h⟩
 |succ d ihd=>
  intro q hd hq e σ hj
  obtain ⟨o,n,u,ns,ks,al⟩:=e
  refine JT (by simp) ?_
  rw [II,exA,Ex.A3]
  cases q with
  |zero=>
   have hw:IntKind.i64.wrap (LW 0+1)=601:=by decide
   have h6:decide ((600:Int) < 601)=true:=by decide
   (repeat' (first|refine Run.ct rfl ?_|((first|refine Run.reg mixed ?_|refine Run.AM ?_|refine Run.Ih Bu (AN.le_refl _) ?_)<;>try simp -implicitDefEqProofs only [hj,hw,h6,go_sem])|fail))
   exact ⟨false,_,rfl,rfl,rfl,fun r h=>by cases h⟩
  |succ q=>
  have hw:IntKind.i64.wrap (LW (q+1)+1)=LW q:=by
   have e:LW (q+1)+1=LW q:=by simp only [LW];omega
   rw [e];exact BJ (by simp only [LW];omega) (by simp only [LW];omega)
  have h6:decide ((600:Int) < LW q)=false:=decide_eq_false (Int.not_lt.2 (by unfold LW;omega))
  have h4:decide ((40:Int) < ((41 - (d+1):Nat):Int))=false:=by simp only [decide_eq_false_iff_not];omega
  have hnode:=ZL o n u ns ks al
  simp only [exA,Ex.A3,AE,AH] at hnode
  have hw2:IntKind.i64.wrap (((41 - (d+1):Nat):Int)+1)=((41 - d:Nat):Int):=by
   have e:((41 - (d+1):Nat):Int)+1=((41 - d:Nat):Int):=by omega
   rw [e];exact BJ (by omega) (by omega)
  cases hn:Gc o n u ns ks.length al with
  |false=>
   rw [hn] at hnode
   (repeat' (first|refine Run.ct rfl ?_|((first|refine Run.reg mixed ?_|refine Run.AM ?_|refine Run.Ih Bu (AN.le_refl _) ?_|refine AG.det (hnode _) ?_)<;>try simp -implicitDefEqProofs only [hj,hw,h6,h4,go_sem])|fail))
   exact ⟨false,_,rfl,rfl,by rw [XC,if_neg (by simp [hn])];rfl,fun r h=>by rw [XC,if_neg (by simp [hn])] at h;cases h⟩
  |true=>
  rw [hn] at hnode
  have hres:vEx (d+1) (q+1) (.mk o n u ns ks al)=(ks.foldlM (fK d) q).bind fun q=>al.foldlM (fA d) q:=by rw [XC,if_pos hn]
  generalize hV:VXQ LW j (d+1) (q+1) (.mk o n u ns ks al) σ=V
  have hno:∀z,vEx (d+1) (q+1) (.mk o n u ns ks al)=none→V (.d (.bool false)) (σ.AL j [.d (.int .i64 z)]):=fun z h=>by
   rw [← hV];exact ⟨false,z,rfl,rfl,by rw [h];rfl,fun r hr=>by rw [h] at hr;cases hr⟩
  have hyes:∀r,vEx (d+1) (q+1) (.mk o n u ns ks al)=some r→V (.d (.bool true)) (σ.AL j [.d (.int .i64 (LW r))]):=fun z h=>by
   rw [← hV];exact ⟨true,_,rfl,rfl,by rw [h];rfl,fun r hr=>by rw [h] at hr;cases hr;rfl⟩
  clear hV
  (repeat' (first|refine Run.ct rfl ?_|((first|refine Run.reg mixed ?_|refine Run.AM ?_|refine AG.det (hnode _) ?_)<;>try simp -implicitDefEqProofs only [hj,hw,h6,h4,AI,go_sem])|fail))
  refine Run.cell 4 4 rfl rfl (fun hb4=>?_)
  refine Run.cell 4 5 rfl rfl (fun hb5=>?_)
  simp only [AV.FN,AI] at hb4 hb5
  refine Run.Co ?_
  refine Run.Cp ((fun (a0:AV) (a2:AV) (a4:AV) (a33:AV) (a34:AV)=>fun (y:Nat×Nat)=>put 0 a0 (put 2 a2 (put 4 a4 (put 33 a33 (put 34 a34 (put 35 (.d (.int .i64 y.1)) U)))))) _ _ _ _ _) (fun _=>Be 4 [.d (.int .i64 o),.d (.str n),.d (.int .i64 u),.d (.sl (ns.map FB)),.d (.sl (ks.map Ex.enc)),.d (.sl (al.map Al.enc))] E) (fun y=>σ.AL j [.d (.int .i64 (LW y.2))])
   (fun y=>y.1≤ks.length∧y.2≤q∧(ks.take y.1).foldlM (fK d) q=some y.2) (fun y=>ks.length - y.1) ?_ (0,q) ⟨by simp,A7 _,rfl⟩
  rintro ⟨i,p⟩ ⟨hi,hp,hok⟩ ih
  simp only at hi hp hok
  by_cases hlt:i < ks.length
  · obtain ⟨x,hx⟩:=DN hlt
    have he:=CW (enc:=Ex.enc) hx
    have hw1:IntKind.i64.wrap ((i:Int)+1)=((i+1:Nat):Int):=by rw [BJ (by omega) (by omega)];omega
    have hc:=ihd p (by omega) (by omega) x (σ.AL j [.d (.int .i64 (LW p))]) (by simp only [AO,if_true])
    cases hv:vEx d p x with
    |some r=>
     have hr:=XB _ _ _ _ hv
     have hc:=VXQ.yes hc hv
     have hs:=S8 hok hx
     obtain ⟨xo,xn,xu,xs,xk,xa⟩:=x
     simp only [Ex.A3,exA,AE,AH] at he hc
     (repeat' (first|refine Run.ct rfl ?_|((first|refine Run.reg mixed ?_|refine Run.AM ?_|(refine AG.mk rfl hc ?_;rintro _ _ ⟨rfl,rfl⟩))<;>try simp -implicitDefEqProofs only [C9 hlt,he,hw1,hw2,go_sem])|fail))
     exact ih (i+1,r) ⟨by simp only;omega,by simp only;omega,by simp only;rw [hs];exact hv⟩ (by simp only;omega)
    |none=>
     have hc:=VXQ.no hc hv
     have hs:=S7 hok hx hv
     obtain ⟨xo,xn,xu,xs,xk,xa⟩:=x
     simp only [Ex.A3,exA,AE,AH] at he hc
     (repeat' (first|refine Run.ct rfl ?_|((first|refine Run.reg mixed ?_|refine Run.AM ?_|refine Run.Ih Bu (AN.le_refl _) ?_|(refine AG.mk rfl hc ?_;rintro _ _ ⟨rfl,z,rfl⟩))<;>try simp -implicitDefEqProofs only [C9 hlt,he,hw1,hw2,go_sem])|fail))
     exact hno z (by rw [hres,hs];rfl)
  · rw [Ar (by omega)] at hok
    rw [hok,B0] at hres
    clear ih
    (repeat' (first|refine Run.ct rfl ?_|((first|refine Run.reg mixed ?_|refine Run.AM ?_)<;>try simp -implicitDefEqProofs only [Ib hlt,AI,go_sem])|fail))
    refine Run.Co ?_
    refine Run.Cp ((fun (a0:AV) (a2:AV) (a47:AV) (a48:AV)=>fun (y:Nat×Nat)=>put 0 a0 (put 2 a2 (put 47 a47 (put 48 a48 (put 49 (.d (.int .i64 y.1)) U))))) _ _ _ _) (fun _=>E) (fun y=>σ.AL j [.d (.int .i64 (LW y.2))])
     (fun y=>y.1≤al.length∧y.2≤q∧(al.take y.1).foldlM (fA d) p=some y.2) (fun y=>al.length - y.1) ?_ (0,p) ⟨by simp,hp,rfl⟩
    rintro ⟨i,p⟩ ⟨hi,hp,hok⟩ ih
    simp only at hi hp hok
    by_cases hlt:i < al.length
    · obtain ⟨x,hx⟩:=DN hlt
      have he:=CW (enc:=Al.enc) hx
      have hw1:IntKind.i64.wrap ((i:Int)+1)=((i+1:Nat):Int):=by rw [BJ (by omega) (by omega)];omega
      obtain ⟨xc,xv,x⟩:=x
      have hc:=ihd p (by omega) (by omega) x (σ.AL j [.d (.int .i64 (LW p))]) (by simp only [AO,if_true])
      cases hv:vEx d p x with
      |some r=>
       have hr:=XB _ _ _ _ hv
       have hc:=VXQ.yes hc hv
       have hs:=S8 hok hx
       obtain ⟨xo,xn,xu,xs,xk,xa⟩:=x
       simp only [Al.A3,Ex.A3,exA,AE,AH] at he hc
       (repeat' (first|refine Run.ct rfl ?_|((first|refine Run.reg mixed ?_|refine Run.AM ?_|(refine AG.mk rfl hc ?_;rintro _ _ ⟨rfl,rfl⟩))<;>try simp -implicitDefEqProofs only [C9 hlt,he,hw1,hw2,go_sem])|fail))
       exact ih (i+1,r) ⟨by simp only;omega,by simp only;omega,by simp only;rw [hs];exact hv⟩ (by simp only;omega)
      |none=>
       have hc:=VXQ.no hc hv
       have hs:=S7 hok hx hv
       obtain ⟨xo,xn,xu,xs,xk,xa⟩:=x
       simp only [Al.A3,Ex.A3,exA,AE,AH] at he hc
       (repeat' (first|refine Run.ct rfl ?_|((first|refine Run.reg mixed ?_|refine Run.AM ?_|refine Run.Ih Bu (AN.le_refl _) ?_|(refine AG.mk rfl hc ?_;rintro _ _ ⟨rfl,z,rfl⟩))<;>try simp -implicitDefEqProofs only [C9 hlt,he,hw1,hw2,go_sem])|fail))
       exact hno z (by rw [hres,hs])
    · rw [Ar (by omega)] at hok
      (repeat' (first|refine Run.ct rfl ?_|((first|refine Run.reg mixed ?_|refine Run.AM ?_|refine Run.Ih Bu (AN.le_refl _) ?_)<;>try simp -implicitDefEqProofs only [Ib hlt,go_sem])|fail))
      exact hyes p (by rw [hres,hok])
end Go.Ab
namespace Go.Ab
open Go.Proofs
end Go.Ab
namespace Go.Ab
open Go.Proofs
end Go.Ab
namespace Go.Ab
open Go.Proofs
def fV (c:CE):Prop:=∀t∈c.args,t.size≤1000000
def fW (d:DE):Prop:=∀c∈d.cons,fV c
theorem tC {b c:Bool} (h:b=true↔c=true):AV.d (.bool b)=AV.d (.bool c):=by rw [IF.2 h]
theorem Ud (t:TE) (σ:AN) (h:t.size≤1000000):AT Tryz.prog 105 [teA t] σ (fun v σ'=>v= .d (.bool (Dc 40 t))∧σ'=σ):=by
 refine Ob (by simp) ?_
 rw [BO]
 have hc:=Rn 40 (A7 _) t σ h
 rw [show ((41 - 40:Nat):Int)=1 from rfl] at hc
 obtain ⟨k,n,l⟩:=t
 simp only [TE.A3,teA,AE,AH] at hc ⊢
 (repeat' (first|refine Run.ct rfl ?_|((first|refine Run.reg mixed ?_|refine Run.AM ?_|refine Run.Ag I7 (AN.le_refl _) ?_|refine AG.det (hc) ?_)<;>try simp -implicitDefEqProofs only [go_sem])|fail))
theorem XE (c:CE) (σ:AN) (h:fV c):AT Tryz.prog 103 [ceA c] σ (fun v σ'=>v= .d (.bool (UA c))∧σ'=σ):=by
 refine Q5 (by simp) ?_
 rw [BO]
 have ha:=Kw (fid:=105) (caps:=[]) (by kernel_rfl) rfl (Dc 40) c.args σ (fun t ht σ1 _=>Ud t σ1 (h t ht))
 obtain ⟨nm,ar⟩:=c
 simp only [CE.enc,ceA,AE,AH] at ha ⊢
 have h6:decide ((ar.length:Int)≤6)=decide (ar.length≤6):=leN _ 6
 (repeat' (first|refine Run.ct rfl ?_|(refine oF (by first|exact GV.t|exact GV.f|exact GV.st|exact GV.sf) ⟨?_,fun h=>?_,?_⟩;rotate_left;(focus ((try simp only [AK,Bool.not_not] at h);simp -implicitDefEqProofs only [AI,h6,go_sem];first|exact Is.mk|exact Is.pv (by simp -implicitDefEqProofs only [h,fU,↓UT,↓YE,↓UU,AI,h6,go_sem];rfl)|(refine AG.det (BZ nm _) ?_;exact Is.mk)|(refine AG.det (ha) ?_;exact Is.mk)|(refine AG.k9 (by simp only [h,fU];rfl) ?_;first|(refine AG.det (BZ nm _) ?_;exact Is.mk)|(refine AG.det (ha) ?_;exact Is.mk))));(try simp -implicitDefEqProofs only [V1,Yy,Yz,↓UT,↓YE,↓UU,AI,h6,JW,go_sem]))|((first|refine Run.reg mixed ?_|refine Run.AM ?_|refine Run.Ag KN (AN.le_refl _) ?_|refine AG.det (BZ nm _) ?_|refine AG.det (ha) ?_)<;>try simp -implicitDefEqProofs only [V1,Yy,Yz,↓UT,↓YE,↓UU,AI,h6,go_sem])|fail))
 simp only [UA]
theorem ZJ (d:DE) (σ:AN) (h:fW d):AT Tryz.prog 50 [deA d] σ (fun v σ'=>v= .d (.bool (IY d))∧σ'=σ):=by
 refine Sa (by simp) ?_
 rw [BO]
 have ha:=HG (fid:=51) (caps:=[]) (by kernel_rfl) rfl Gy d.vars σ (fun x _ σ1 _=>D7 x σ1)
 have hc:=SW (fid:=103) (caps:=[]) (by kernel_rfl) rfl UA d.cons σ (fun c hc σ1 _=>XE c σ1 (h c hc))
 obtain ⟨nm,vs,cs⟩:=d
 simp only [DE.enc,deA,AE,AH] at ha hc ⊢
 have h6:decide ((6:Int) < (vs.length:Int))=!decide (vs.length≤6):=gtN _ 6
 have h8:decide ((8:Int) < (cs.length:Int))=!decide (cs.length≤8):=gtN _ 8
 have h1:decide ((cs.length:Int) < 1)=decide (cs.length < 1):=ltN _ 1
 (repeat' (first|refine Run.ct rfl ?_|(refine oF (by first|exact GV.t|exact GV.f|exact GV.st|exact GV.sf) ⟨?_,fun h=>?_,?_⟩;rotate_left;(focus ((try simp only [AK,Bool.not_not] at h);simp -implicitDefEqProofs only [AI,h6,h8,h1,go_sem];first|exact Is.mk|exact Is.pv (by simp -implicitDefEqProofs only [h,fU,↓UT,↓YE,↓UU,AI,h6,h8,h1,go_sem];rfl)|(refine AG.det (BZ nm _) ?_;exact Is.mk)|(refine AG.det (ha) ?_;exact Is.mk)|(refine AG.det (hc) ?_;exact Is.mk)|(refine AG.k9 (by simp only [h,fU];rfl) ?_;first|(refine AG.det (BZ nm _) ?_;exact Is.mk)|(refine AG.det (ha) ?_;exact Is.mk)|(refine AG.det (hc) ?_;exact Is.mk))));(try simp -implicitDefEqProofs only [V1,Yy,Yz,↓UT,↓YE,↓UU,AI,h6,h8,h1,LM,go_sem]))|((first|refine Run.reg mixed ?_|refine Run.AM ?_|refine Run.Ag Lx (AN.le_refl _) ?_|refine AG.det (BZ nm _) ?_|refine AG.det (ha) ?_|refine AG.det (hc) ?_)<;>try simp -implicitDefEqProofs only [V1,Yy,Yz,↓UT,↓YE,↓UU,AI,h6,h8,h1,go_sem])|(refine ⟨fun h=>?_,fun h=>?_⟩<;>first|(cases h;done)|try simp only [h])|fail))
 all_goals (refine tC ?_;simp [IY] at *;try grind)
set_option maxHeartbeats 4000000 in
theorem PS (p:Pg) (σ:AN) (h:∀d∈p.data,fW d):AT Tryz.prog 19 [pgA p] σ (fun v σ'=>v= .d (.bool (E6 p))∧σ'=σ):=by
 obtain ⟨ds,fs⟩:=p
 refine WB (by simp) ?_
 rw [BO,pgA]
 simp only [Pg.enc,AE,AH] at h ⊢
 have h12:decide ((12:Int) < (ds.length:Int))=!decide (ds.length≤12):=gtN _ 12
 have h24:decide ((24:Int) < (fs.length:Int))=!decide (fs.length≤24):=gtN _ 24
 by_cases hd:ds.length≤12
 case neg=>
  (repeat' (first|refine Run.ct rfl ?_|((first|refine Run.reg mixed ?_|refine Run.AM ?_|refine Run.Ag Cr (AN.le_refl _) ?_)<;>try simp -implicitDefEqProofs only [AI,h12,decide_eq_false hd,go_sem])|fail))
  simp [E6,hd]
 by_cases hf:fs.length≤24
 case neg=>
  (repeat' (first|refine Run.ct rfl ?_|((first|refine Run.reg mixed ?_|refine Run.AM ?_|refine Run.Ag Cr (AN.le_refl _) ?_)<;>try simp -implicitDefEqProofs only [AI,h12,decide_eq_true hd,h24,decide_eq_false hf,go_sem])|fail))
  simp [E6,hf]
 have hres:E6 ⟨ds,fs⟩=(ds.all IY&&(fs.foldlM XD 600).isSome):=by simp [E6,hd,hf]
 (repeat' (first|refine Run.ct rfl ?_|((first|refine Run.reg mixed ?_|refine Run.AM ?_)<;>try simp -implicitDefEqProofs only [AI,h12,decide_eq_true hd,h24,decide_eq_true hf,go_sem])|fail))
 refine Run.Co ?_
 refine Run.Cp ((fun (a1:AV) (a19:AV) (a20:AV)=>fun (i:Nat)=>put 1 a1 (put 19 a19 (put 20 a20 (put 21 (.d (.int .i64 i)) U)))) _ _ _) (fun _=>Be 1 [.d (.sl (ds.map DE.enc)),.d (.sl (fs.map FE.enc))] E) (fun _=>σ) (fun i=>i≤ds.length∧(ds.take i).all IY=true) (fun i=>ds.length - i) ?_ 0 ⟨by simp,by simp⟩
 rintro i ⟨hi,hok⟩ ih
 by_cases hlt:i < ds.length
 · obtain ⟨x,hx⟩:=DN hlt
   have he:=CW (enc:=DE.enc) hx
   have hw1:=FR (show i+1≤9000000000000000000 by omega)
   have hc:=ZJ x σ (h x (Ah hx))
   cases hp:IY x with
   |true=>
    have hs:=kF hok hx hp
    rw [hp] at hc
    obtain ⟨nm,vs,cs⟩:=x
    simp only [DE.enc,deA,AE,AH] at he hc
    (repeat' (first|refine Run.ct rfl ?_|((first|refine Run.reg mixed ?_|refine Run.AM ?_|refine AG.det (hc) ?_)<;>try simp -implicitDefEqProofs only [C9 hlt,he,hw1,go_sem])|fail))
    exact ih (i+1) ⟨by omega,hs⟩ (by omega)
   |false=>
    have hs:=sV (p:=IY) hx hp
    rw [hp] at hc
    obtain ⟨nm,vs,cs⟩:=x
    simp only [DE.enc,deA,AE,AH] at he hc
    (repeat' (first|refine Run.ct rfl ?_|((first|refine Run.reg mixed ?_|refine Run.AM ?_|refine Run.Ag Cr (AN.le_refl _) ?_|refine AG.det (hc) ?_)<;>try simp -implicitDefEqProofs only [C9 hlt,he,hw1,go_sem])|fail))
    rw [hres,hs];rfl
 · rw [Ar (by omega)] at hok
   rw [hok,Cl] at hres
   clear ih
   (repeat' (first|refine Run.ct rfl ?_|((first|refine Run.reg mixed ?_|refine Run.AM ?_)<;>try simp -implicitDefEqProofs only [Ib hlt,go_sem])|fail))
   intro j hj
   have hle:=Ek (cs:=[AV.d (.int .i64 0)]) hj
   (repeat' (first|refine Run.ct rfl ?_|((first|refine Run.reg mixed ?_|refine Run.AM ?_)<;>try simp -implicitDefEqProofs only [AI,go_sem])|fail))
   refine Run.Co ?_
   refine Run.Cp ((fun (a5:AV) (a32:AV) (a33:AV)=>fun (y:Nat×Nat)=>put 5 a5 (put 32 a32 (put 33 a33 (put 34 (.d (.int .i64 y.1)) U)))) _ _ _) (fun _=>E) (fun y=>σ.AL j [.d (.int .i64 (LW y.2))])
    (fun y=>y.1≤fs.length∧y.2≤600∧(fs.take y.1).foldlM XD 600=some y.2) (fun y=>fs.length - y.1) ?_ (0,600) ⟨by simp,by simp,rfl⟩
   rintro ⟨i,q⟩ ⟨hi,hq,hok⟩ ih
   simp only at hi hq hok
   by_cases hlt:i < fs.length
   · obtain ⟨x,hx⟩:=DN hlt
     have he:=CW (enc:=FE.enc) hx
     have hw1:=FR (show i+1≤9000000000000000000 by omega)
     have hnm:=D7 x.name (σ.AL j [.d (.int .i64 (LW q))])
     have hps:=HG (fid:=51) (caps:=[]) (by kernel_rfl) rfl Gy x.params (σ.AL j [.d (.int .i64 (LW q))]) (fun x _ σ1 _=>D7 x σ1)
     have h6:decide ((6:Int) < (x.params.length:Int))=!decide (x.params.length≤6):=gtN _ 6
     have hc:=VA j 40 q (A7 _) hq x.body (σ.AL j [.d (.int .i64 (LW q))]) (by simp only [AO,if_true])
     rw [show ((41 - 40:Nat):Int)=1 from rfl] at hc
     have hno:XD q x=none→fs.foldlM XD 600=none:=fun h=>S7 hok hx h
     have hyes:∀r,XD q x=some r→(fs.take (i+1)).foldlM XD 600=some r:=fun r h=>by rw [S8 hok hx,h]
     have hvf:XD q x=if Gy x.name&&decide (x.params.length≤6)&&x.params.all Gy then vEx 40 q x.body else none:=rfl
     cases h1:Gy x.name with
     |false=>
      rw [h1] at hnm hvf
      obtain ⟨nm,ps,o,n,u,ns,ks,al⟩:=x
      simp only [FE.enc,Ex.A3] at he hnm
      (repeat' (first|refine Run.ct rfl ?_|((first|refine Run.reg mixed ?_|refine Run.AM ?_|(refine Run.Ag Cr (σ2:=σ) (Ek hj) ?_)|refine AG.det (hnm) ?_)<;>try simp -implicitDefEqProofs only [C9 hlt,he,go_sem])|fail))
      rw [hres,hno hvf];rfl
     |true=>
     by_cases h2:x.params.length≤6
     case neg=>
      rw [decide_eq_false h2] at h6
      rw [h1,decide_eq_false h2] at hvf
      rw [h1] at hnm
      obtain ⟨nm,ps,o,n,u,ns,ks,al⟩:=x
      simp only [FE.enc,Ex.A3] at he hnm h6
      (repeat' (first|refine Run.ct rfl ?_|((first|refine Run.reg mixed ?_|refine Run.AM ?_|(refine Run.Ag Cr (σ2:=σ) (Ek hj) ?_)|refine AG.det (hnm) ?_)<;>try simp -implicitDefEqProofs only [C9 hlt,he,AI,h6,go_sem])|fail))
      rw [hres,hno hvf];rfl
     rw [decide_eq_true h2] at h6
     cases h3:x.params.all Gy with
     |false=>
      rw [h1,h3] at hvf
      rw [Bool.and_false] at hvf
      rw [h1] at hnm
      rw [h3] at hps
      obtain ⟨nm,ps,o,n,u,ns,ks,al⟩:=x
      simp only [FE.enc,Ex.A3] at he hnm h6 hps
      (repeat' (first|refine Run.ct rfl ?_|((first|refine Run.reg mixed ?_|refine Run.AM ?_|(refine Run.Ag Cr (σ2:=σ) (Ek hj) ?_)|refine AG.det (hnm) ?_|refine AG.det (hps) ?_)<;>try simp -implicitDefEqProofs only [C9 hlt,he,AI,h6,go_sem])|fail))
      rw [hres,hno hvf];rfl
     |true=>
     rw [h1,h3,decide_eq_true h2] at hvf
     rw [h1] at hnm
     rw [h3] at hps
     cases hv:vEx 40 q x.body with
     |some r=>
      have hr:=XB _ _ _ _ hv
      rw [hv] at hvf
      have hc:=VXQ.yes hc hv
      have hs:=hyes r hvf
      obtain ⟨nm,ps,o,n,u,ns,ks,al⟩:=x
      simp only [FE.enc,Ex.A3,exA,AE,AH] at he hnm h6 hps hc
      (repeat' (first|refine Run.ct rfl ?_|((first|refine Run.reg mixed ?_|refine Run.AM ?_|(refine AG.mk rfl hc ?_;rintro _ _ ⟨rfl,rfl⟩)|refine AG.det (hnm) ?_|refine AG.det (hps) ?_)<;>try simp -implicitDefEqProofs only [C9 hlt,he,hw1,AI,h6,go_sem])|fail))
      exact ih (i+1,r) ⟨by simp only;omega,by simp only;omega,hs⟩ (by simp only;omega)
     |none=>
      rw [hv] at hvf
      have hc:=VXQ.no hc hv
      obtain ⟨nm,ps,o,n,u,ns,ks,al⟩:=x
      simp only [FE.enc,Ex.A3,exA,AE,AH] at he hnm h6 hps hc
      (repeat' (first|refine Run.ct rfl ?_|((first|refine Run.reg mixed ?_|refine Run.AM ?_|(refine AG.mk rfl hc ?_;rintro _ _ ⟨rfl,z,rfl⟩)|(refine Run.Ag Cr (σ2:=σ) (Ek hj) ?_)|refine AG.det (hnm) ?_|refine AG.det (hps) ?_)<;>try simp -implicitDefEqProofs only [C9 hlt,he,hw1,AI,h6,go_sem])|fail))
      rw [hres,hno hvf];rfl
   · rw [Ar (by omega)] at hok
     (repeat' (first|refine Run.ct rfl ?_|((first|refine Run.reg mixed ?_|refine Run.AM ?_|(refine Run.Ag Cr (σ2:=σ) (Ek hj) ?_))<;>try simp -implicitDefEqProofs only [Ib hlt,go_sem])|fail))
     rw [hres,hok];rfl
end Go.Ab
namespace Go.Ab
open Go.Proofs
theorem oT:Am Tryz.prog 82=true:=by kernel_rfl
theorem uU:Am Tryz.prog 84=true:=by kernel_rfl
theorem rD:Am Tryz.prog 80=true:=by kernel_rfl
theorem oU {i:Nat} (j:Nat) {c:CE} (h:UA c=true):
 WX (fun σ=>σ.blk j=some [.gp i 0]) 82 ([]++[ceA c]++[.gp j 0]) i (fmtC c):=by
 intro σ0 σ s hH0 hb0 hlen
 have hjs:=hH0.1
 have hH:(fun _=>True) σ0∧σ0.gt Qg=some Sj:=⟨trivial,hH0.2⟩
 obtain ⟨n,l⟩:=c
 simp only [UA,AK,decide_eq_true_eq,A4] at h
 have hop:=HU (H:=fun _=>True) i (first:=[.gp i 0]) (caps:=[]) uU ⟨rfl,rfl⟩ Cb l (fun x hx=>n8 i 40 x (h.2 x hx))
 refine N9 (by simp) ?_
 show Run _ _ _ (As [_,_]) _ _
 rw [BL]
 rw [fmtC] at hlen ⊢
 simp only [ceA,CE.enc,AE,AH] at hlen ⊢
 (repeat' (first|refine Run.ct rfl ?_|((first|refine Run.reg mixed ?_|refine Run.AM ?_|(refine AG.mk rfl (A2 n hb0 (by (try simp only [AD,AA,AF] at hlen ⊢);omega)) ?_;rintro _ σ1 ⟨rfl,hb1⟩)|(refine AQ rfl (fun h=>?_) (fun h=>?_)<;>try (cases h;done)))<;>try simp -implicitDefEqProofs only [(hb0.le.blk j _ hjs),go_sem])|(refine ⟨fun h=>?_,fun h=>?_⟩<;>first|(cases h;done)|try simp only [h])|fail))
 try simp -implicitDefEqProofs only [(hb1.le.blk j _ hjs),go_sem]
 (repeat' (first|refine Run.ct rfl ?_|((first|refine Run.reg mixed ?_|refine Run.AM ?_|(refine AG.mk rfl (hop σ0 σ1 _ hH hb1 (by (try simp only [AD,AA,AF] at hlen ⊢);omega)) ?_;rintro _ σ2 ⟨rfl,hb2⟩)|(refine AQ rfl (fun h=>?_) (fun h=>?_)<;>try (cases h;done)))<;>try simp -implicitDefEqProofs only [(hb1.le.blk j _ hjs),go_sem])|(refine ⟨fun h=>?_,fun h=>?_⟩<;>first|(cases h;done)|try simp only [h])|fail))
 try simp only [AR,AU,A6,A0] at hb2 ⊢
 exact Run.fin Hs rfl (fun _ _ h=>h) (AN.le_refl _) ⟨rfl,hb2⟩
theorem oW {i:Nat} {d:DE} (h:IY d=true):WC 42 [.gp i 0,deA d] i (S6 d):=by
 intro σ0 σ s hH hbu hlen
 obtain ⟨n,vs,cs⟩:=d
 simp only [IY,AK,decide_eq_true_eq,A4] at h
 have hvs:=MI (H:=fun _=>True) i (first:=[.gp i 0]) (caps:=[]) rD ⟨rfl,rfl⟩ id vs (fun x _=>rE i x)
 rw [List.map_id] at hvs
 refine P3 (by simp) ?_
 rw [BL]
 rw [S6] at hlen ⊢
 simp only [deA,DE.enc,AE,AH] at hlen ⊢
 (repeat' (first|refine Run.ct rfl ?_|((first|refine Run.reg mixed ?_|refine Run.AM ?_|(refine AQ rfl (fun h=>?_) (fun h=>?_)<;>try (cases h;done)))<;>try simp -implicitDefEqProofs only [go_sem])|(refine ⟨fun h=>?_,fun h=>?_⟩<;>first|(cases h;done)|try simp only [h])|fail))
 intro j hj
 have hun:∀s' σ',BuS (σ0.AL j [.gp i 0]) i s' σ'→BuS σ0 i s' σ':=fun s' σ' h=>hbu.gA hj h
 have hjs:(σ0.AL j [.gp i 0]).blk j=some [.gp i 0]:=by simp [AO]
 have hH:(fun _=>True) (σ0.AL j [.gp i 0])∧(σ0.AL j [.gp i 0]).gt Qg=some Sj:=⟨trivial,hH.2⟩
 have hb0:=hbu.share (cs:=[.gp i 0]) hj
 generalize σ.AL j [.gp i 0]=τ at hb0 ⊢
 generalize σ0.AL j [.gp i 0]=τ0 at hun hjs hH hb0
 have hHj:(fun σ=>σ.blk j=some [.gp i 0]) τ0∧τ0.gt Qg=some Sj:=⟨hjs,hH.2⟩
 have hsep:=NN (H:=fun σ=>σ.blk j=some [.gp i 0]) i (first:=[]) (caps:=[.gp j 0]) oT ⟨rfl,rfl⟩ [32,124,32] fmtC cs (fun x hx=>oU j (h.2 x hx))
 have ha1:=FQ (a:=[100,97,116,97,32]) (b:=n) (by simp only [AA,AD,AF] at hlen ⊢;omega)
 simp only [AU,A6] at ha1
 (repeat' (first|refine Run.ct rfl ?_|((first|refine Run.reg mixed ?_|refine Run.AM ?_|(refine AG.mk rfl (A2 _ hb0 (by (try simp only [AD,AA,AF] at hlen ⊢);omega)) ?_;rintro _ σ1 ⟨rfl,hb1⟩)|(refine AQ rfl (fun h=>?_) (fun h=>?_)<;>try (cases h;done)))<;>try simp -implicitDefEqProofs only [ha1,(hb0.le.blk j _ hjs),go_sem])|(refine ⟨fun h=>?_,fun h=>?_⟩<;>first|(cases h;done)|try simp only [h])|fail))
 try simp -implicitDefEqProofs only [(hb1.le.blk j _ hjs),go_sem]
 (repeat' (first|refine Run.ct rfl ?_|((first|refine Run.reg mixed ?_|refine Run.AM ?_|(refine AG.mk rfl (hvs τ0 σ1 _ hH hb1 (by (try simp only [AD,AA,AF] at hlen ⊢);omega)) ?_;rintro _ σ2 ⟨rfl,hb2⟩)|(refine AQ rfl (fun h=>?_) (fun h=>?_)<;>try (cases h;done)))<;>try simp -implicitDefEqProofs only [ha1,(hb1.le.blk j _ hjs),go_sem])|(refine ⟨fun h=>?_,fun h=>?_⟩<;>first|(cases h;done)|try simp only [h])|fail))
 try simp -implicitDefEqProofs only [(hb2.le.blk j _ hjs),go_sem]
 (repeat' (first|refine Run.ct rfl ?_|((first|refine Run.reg mixed ?_|refine Run.AM ?_|(refine AG.mk rfl (A2 [32,61,32] hb2 (by (try simp only [AD,AA,AF] at hlen ⊢);omega)) ?_;rintro _ σ3 ⟨rfl,hb3⟩)|(refine AQ rfl (fun h=>?_) (fun h=>?_)<;>try (cases h;done)))<;>try simp -implicitDefEqProofs only [ha1,(hb2.le.blk j _ hjs),go_sem])|(refine ⟨fun h=>?_,fun h=>?_⟩<;>first|(cases h;done)|try simp only [h])|fail))
 try simp -implicitDefEqProofs only [(hb3.le.blk j _ hjs),go_sem]
 (repeat' (first|refine Run.ct rfl ?_|((first|refine Run.reg mixed ?_|refine Run.AM ?_|(refine AG.mk rfl (hsep τ0 σ3 _ hHj hb3 (by (try simp only [AD,AA,AF] at hlen ⊢);omega)) ?_;rintro _ σ4 ⟨rfl,hb4⟩)|(refine AQ rfl (fun h=>?_) (fun h=>?_)<;>try (cases h;done)))<;>try simp -implicitDefEqProofs only [ha1,(hb3.le.blk j _ hjs),go_sem])|(refine ⟨fun h=>?_,fun h=>?_⟩<;>first|(cases h;done)|try simp only [h])|fail))
 try simp -implicitDefEqProofs only [(hb4.le.blk j _ hjs),go_sem]
 (repeat' (first|refine Run.ct rfl ?_|((first|refine Run.reg mixed ?_|refine Run.AM ?_|(refine AG.mk rfl (A2 [59,10] hb4 (by (try simp only [AD,AA,AF] at hlen ⊢);omega)) ?_;rintro _ σ5 ⟨rfl,hb5⟩)|(refine AQ rfl (fun h=>?_) (fun h=>?_)<;>try (cases h;done)))<;>try simp -implicitDefEqProofs only [ha1,(hb4.le.blk j _ hjs),go_sem])|(refine ⟨fun h=>?_,fun h=>?_⟩<;>first|(cases h;done)|try simp only [h])|fail))
 try simp only [AR,AU,A6,A0] at hb5 ⊢
 exact Run.fin JP rfl (fun _ _ h=>h) (AN.le_refl _) ⟨rfl,hun _ _ hb5⟩
theorem YP {α:Type} {f:α→Str} {l:List α} {k:Nat} {x:α} (h:l[k]?=some x):((l.take (k+1)).map f).flatten=((l.take k).map f).flatten++f x:=by
 rw [Jg h];simp
theorem Wx {α:Type} (f:α→Str) (l:List α) (k:Nat):((l.take k).map f).flatten.length≤(l.map f).flatten.length:=by
 have:((l.map f).flatten).length=((l.take k).map f).flatten.length+((l.drop k).map f).flatten.length:=by
  rw [← AA,← LQ,← B1,DL]
 omega
set_option maxHeartbeats 4000000 in
theorem U9 (p:Pg) (σ:AN) (hp:σ.gt Qg=some Sj) (hs:∀d∈p.data,∀c∈d.cons,∀t∈c.args,t.size≤100000):
 AT Tryz.prog 17 [pgA p] σ (fun v σ'=>v= .d (.str (if E6 p then XX p else []))∧σ'=σ):=by
 have hv:=PS p σ (fun d hd c hc t ht=>Az (hs d hd c hc t ht) (by decide))
 refine VB (by simp) ?_
 rw [BO]
 cases hval:E6 p with
 |false=>
  rw [hval] at hv
  obtain ⟨ds,fs⟩:=p
  simp only [pgA,Pg.enc,AE,AH,AY,if_false] at hv ⊢
  (repeat' (first|refine Run.ct rfl ?_|((first|refine Run.reg mixed ?_|refine Run.AM ?_|(refine Run.Ag Kg (σ2:=σ) (AN.le_refl _) ?_)|refine AG.det (hv) ?_|(refine AQ rfl (fun h=>?_) (fun h=>?_)<;>try (cases h;done)))<;>try simp -implicitDefEqProofs only [go_sem])|(refine ⟨fun h=>?_,fun h=>?_⟩<;>first|(cases h;done)|try simp only [h])|fail))
 |true=>
 rw [hval] at hv
 have hlen:=pB hval hs
 obtain ⟨⟨hd12,hda⟩,hf24,hfa⟩:=RA hval
 obtain ⟨ds,fs⟩:=p
 simp only [pgA,Pg.enc,AE,AH,if_true] at hv hd12 hda hf24 hfa ⊢
 rw [XX,AA] at hlen
 simp only at hlen
 (repeat' (first|refine Run.ct rfl ?_|((first|refine Run.reg mixed ?_|refine Run.AM ?_|(refine XEx.ZW rfl rfl rfl (fun i hi=>?_))|refine AG.det (hv) ?_|(refine AQ rfl (fun h=>?_) (fun h=>?_)<;>try (cases h;done)))<;>try simp -implicitDefEqProofs only [AI,go_sem])|(refine ⟨fun h=>?_,fun h=>?_⟩<;>first|(cases h;done)|try simp only [h])|fail))
 have hbu0:=gT hi
 have hbk0:((σ.AL i [.Ei,.AW]).JY i (2,87)).blk i=some [.Ei,.AW]:=by simp [AN.JY,AN.AL]
 generalize (σ.AL i [AV.Ei,.AW]).JY i (2,87)=τ0 at hbu0 hbk0 ⊢
 (repeat' (first|refine Run.ct rfl ?_|((first|refine Run.reg mixed ?_|refine Run.AM ?_|(refine AQ rfl (fun h=>?_) (fun h=>?_)<;>try (cases h;done)))<;>try simp -implicitDefEqProofs only [AI,go_sem])|(refine ⟨fun h=>?_,fun h=>?_⟩<;>first|(cases h;done)|try simp only [h])|fail))
 refine Run.Co ?_
 refine Run.Cp ((fun (a1:AV) (a3:AV) (a14:AV) (a15:AV)=>fun (y:Nat×List UInt8×AN)=>put 1 a1 (put 3 a3 (put 14 a14 (put 15 a15 (put 16 (.d (.int .i64 y.1)) U))))) _ _ _ _) (fun _=>Be 1 [.d (.sl (ds.map DE.enc)),.d (.sl (fs.map FE.enc))] E) (fun y=>y.2.2)
  (fun y=>y.1≤ds.length∧BuS σ i y.2.1 y.2.2∧y.2.1=((ds.take y.1).map S6).flatten∧(y.2.1=[]→∃p,y.2.2.blk i=some [p,.AW])) (fun y=>ds.length - y.1) ?_ (0,[],τ0) ⟨by simp,hbu0,by simp,fun _=>⟨_,hbk0⟩⟩
 rintro ⟨k,s1,τ⟩ ⟨hk,hb1,hs1,he1⟩ ih
 simp only at hk hb1 hs1 he1
 by_cases hlt:k < ds.length
 · obtain ⟨d,hd⟩:=DN hlt
   have he:=CW (enc:=DE.enc) hd
   have hw1:IntKind.i64.wrap ((k:Int)+1)=((k+1:Nat):Int):=by rw [BJ (by omega) (by omega)];omega
   have hdo:=oW (i:=i) (hda d (Ah hd))
   have htf:=YP (f:=S6) hd
   have hle:=Wx S6 ds (k+1)
   have hne:S6 d≠[]:=by rw [S6];simp
   rw [htf,← hs1,AA] at hle
   have hc:=hdo σ τ s1 ⟨trivial,hp⟩ hb1 (by omega)
   generalize S6 d=x at hc htf hne hle
   obtain ⟨n,vs,cs⟩:=d
   simp only [deA,DE.enc,AE,AH] at he hc
   (repeat' (first|refine Run.ct rfl ?_|((first|refine Run.reg mixed ?_|refine Run.AM ?_|(refine AG.mk rfl hc ?_;rintro _ σ1 ⟨rfl,hb2⟩)|(refine AQ rfl (fun h=>?_) (fun h=>?_)<;>try (cases h;done)))<;>try simp -implicitDefEqProofs only [C9 hlt,he,hw1,AI,go_sem])|(refine ⟨fun h=>?_,fun h=>?_⟩<;>first|(cases h;done)|try simp only [h])|fail))
   (repeat' (first|refine Run.ct rfl ?_|((first|refine Run.reg mixed ?_|refine Run.AM ?_|(refine AQ rfl (fun h=>?_) (fun h=>?_)<;>try (cases h;done)))<;>try simp -implicitDefEqProofs only [hw1,go_sem])|(refine ⟨fun h=>?_,fun h=>?_⟩<;>first|(cases h;done)|try simp only [h])|fail))
   exact ih (k+1,_,σ1) ⟨by simp only;omega,hb2,by simp only;rw [htf,hs1],fun h=>absurd (List.append_eq_nil_iff.1 h).2 hne⟩ (by simp only;omega)
 have hke:k=ds.length:=by omega
 rw [hke,List.take_length] at hs1
 (repeat' (first|refine Run.ct rfl ?_|((first|refine Run.reg mixed ?_|refine Run.AM ?_|(refine AQ rfl (fun h=>?_) (fun h=>?_)<;>try (cases h;done)))<;>try simp -implicitDefEqProofs only [Ib hlt,AI,go_sem])|(refine ⟨fun h=>?_,fun h=>?_⟩<;>first|(cases h;done)|try simp only [h])|fail))
 refine Run.Co ?_
 refine Run.Cp ((fun (a3:AV) (a25:AV) (a26:AV)=>fun (y:Nat×List UInt8×AN)=>put 3 a3 (put 25 a25 (put 26 a26 (put 27 (.d (.int .i64 y.1)) U)))) _ _ _) (fun _=>E) (fun y=>y.2.2)
  (fun y=>y.1≤fs.length∧BuS σ i y.2.1 y.2.2∧y.2.1=(ds.map S6).flatten++((fs.take y.1).map UE).flatten∧(y.2.1=[]→∃p,y.2.2.blk i=some [p,.AW])) (fun y=>fs.length - y.1) ?_ (0,s1,τ) ⟨by simp,hb1,by simp [hs1],he1⟩
 rintro ⟨q,s2,τ2⟩ ⟨hq,hq1,hs2,he2⟩ ih2
 simp only at hq hq1 hs2 he2
 by_cases hlt2:q < fs.length
 · obtain ⟨d,hd⟩:=DN hlt2
   have he:=CW (enc:=FE.enc) hd
   have hw1:IntKind.i64.wrap ((q:Int)+1)=((q+1:Nat):Int):=by rw [BJ (by omega) (by omega)];omega
   obtain ⟨hhd,hnb,hsz⟩:=hfa d (Ah hd)
   have htf:=YP (f:=UE) hd
   have hle:=Wx UE fs (q+1)
   have hne:UE d≠[]:=by rw [UE];simp
   rw [htf,AA] at hle
   have hl2:s2.length+(UE d).length≤10000000000:=by rw [hs2,AA];omega
   have hex:=Y5 i d.body hnb 0
   unfold EC at hex
   rw [pl,if_neg (by omega)] at hex
   rw [UE] at hl2 htf hne
   simp only [Mj,AK,decide_eq_true_eq] at hhd
   obtain ⟨n,ps,b⟩:=d
   simp only at hl2 htf hne hex hhd
   generalize Ax b=tb at *
   obtain ⟨ob,nb,ub,nsb,ksb,alb⟩:=b
   simp only [exA,FE.enc,Ex.A3,AE,AH,AU,A6] at he hex
   have hlen2:=hl2
   simp only [ID,If,cms,AA,AD,AF] at hlen2
   have hjn:=fun σ=>eF ps [44,32] σ (by omega) (by omega)
   have ha1:=FQ (a:=[102,117,110,32]) (b:=n) (by simp only [AA,AD,AF];omega)
   have ha2:=FQ (a:=[102,117,110,32]++n) (b:=[40]) (by simp only [AA,AD,AF];omega)
   have ha3:=FQ (a:=[102,117,110,32]++n++[40]) (b:=Lib.join ps [44,32]) (by simp only [AA,AD,AF];omega)
   have ha4:=FQ (a:=[102,117,110,32]++n++[40]++Lib.join ps [44,32]) (b:=[41,32,61,32]) (by simp only [AA,AD,AF];omega)
   simp only [AU,A6] at ha1 ha2 ha3 ha4
   (repeat' (first|refine Run.ct rfl ?_|((first|refine Run.reg mixed ?_|refine Run.AM ?_|(refine AG.mk rfl (A2 _ hq1 (by simp only [AA,AD,AF];omega)) ?_;rintro _ σ1 ⟨rfl,hb2⟩)|refine AG.det (hjn _) ?_|(refine AQ rfl (fun h=>?_) (fun h=>?_)<;>try (cases h;done)))<;>try simp -implicitDefEqProofs only [C9 hlt2,he,hw1,ha1,ha2,ha3,ha4,AI,go_sem])|(refine ⟨fun h=>?_,fun h=>?_⟩<;>first|(cases h;done)|try simp only [h])|fail))
   (repeat' (first|refine Run.ct rfl ?_|((first|refine Run.reg mixed ?_|refine Run.AM ?_|(refine AG.mk rfl (hex σ σ1 _ ⟨trivial,hp⟩ hb2 (by simp only [AA,AD,AF];omega)) ?_;rintro _ σ2 ⟨rfl,hb3⟩)|(refine AQ rfl (fun h=>?_) (fun h=>?_)<;>try (cases h;done)))<;>try simp -implicitDefEqProofs only [hw1,go_sem])|(refine ⟨fun h=>?_,fun h=>?_⟩<;>first|(cases h;done)|try simp only [h])|fail))
   (repeat' (first|refine Run.ct rfl ?_|((first|refine Run.reg mixed ?_|refine Run.AM ?_|(refine AG.mk rfl (A2 _ hb3 (by simp only [AA,AD,AF];omega)) ?_;rintro _ σ3 ⟨rfl,hb4⟩)|(refine AQ rfl (fun h=>?_) (fun h=>?_)<;>try (cases h;done)))<;>try simp -implicitDefEqProofs only [hw1,go_sem])|(refine ⟨fun h=>?_,fun h=>?_⟩<;>first|(cases h;done)|try simp only [h])|fail))
   (repeat' (first|refine Run.ct rfl ?_|((first|refine Run.reg mixed ?_|refine Run.AM ?_|(refine AQ rfl (fun h=>?_) (fun h=>?_)<;>try (cases h;done)))<;>try simp -implicitDefEqProofs only [hw1,go_sem])|(refine ⟨fun h=>?_,fun h=>?_⟩<;>first|(cases h;done)|try simp only [h])|fail))
   refine ih2 (q+1,_,σ3) ⟨by simp only;omega,hb4,?_,fun h=>?_⟩ (by simp only;omega)
   · simp only
     rw [htf,hs2]
     simp [ID,If,cms]
   · simp at h
 have hqe:q=fs.length:=by omega
 rw [hqe,List.take_length] at hs2
 have hst:=gF hq1 he2
 (repeat' (first|refine Run.ct rfl ?_|((first|refine Run.reg mixed ?_|refine Run.AM ?_|(refine AG.mk rfl hst ?_;rintro _ σ1 ⟨rfl,hle1⟩)|(refine Run.Ag Kg (σ2:=σ) hle1 ?_)|(refine AQ rfl (fun h=>?_) (fun h=>?_)<;>try (cases h;done)))<;>try simp -implicitDefEqProofs only [Ib hlt2,AI,go_sem])|(refine ⟨fun h=>?_,fun h=>?_⟩<;>first|(cases h;done)|try simp only [h])|fail))
 rw [hs2];rfl
end Go.Ab
