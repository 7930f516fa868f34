/- Valid expressions. Valid expressions, as the reference looks at them. Valid expressions, as the reference looks at them: the nodes. Conditions: none. -/
import Derived.Test.YtifplkldbbcldaaGreatDoorXRh
set_option linter.unusedSimpArgs false
set_option linter.unusedVariables false
set_option maxRecDepth 4000
set_option maxHeartbeats 8000000
open List renaming take_append_drop→En,mem_cons_of_mem→Am,mem_cons_self→Ah,map_cons→AF,map_nil→AI,length_map→AG,take_of_length_le→A8,replicate→Aj
open Option renaming bind_eq_bind→AU,bind_eq_some_iff→AD,bind_some→BY
open Nat renaming le_refl→A9
open Int renaming reduceLE→BA,reduceToNat→Ap,reduceBEq→AS
open Bool renaming and_true→BH,true_and→BJ,and_eq_true→AN,eq_iff_iff→Dn
namespace Go.Ab
open Go.Proofs
section
variable {α β:Type}
theorem KM {f:β→α→Option β} {l:List α} {i:Nat} {x:α} {a b:β} (h:(l.take i).foldlM f a=some b) (hx:l[i]?=some x):(l.take (i+1)).foldlM f a=f b x:=by
 rw [Fl hx,List.foldlM_append,h]
 simp [List.foldlM]
theorem KL {f:β→α→Option β} {l:List α} {i:Nat} {x:α} {a b:β} (h:(l.take i).foldlM f a=some b) (hx:l[i]?=some x) (hn:f b x=none):l.foldlM f a=none:=by
 conv=>lhs;rw [← En i l]
 rw [List.foldlM_append,h,Eh hx]
 simp [List.foldlM,hn]
theorem YZ {f:Nat→α→Option Nat}:∀(l:List α) (a b:Nat),(∀x∈l,∀a b,f a x=some b→b≤a)→l.foldlM f a=some b→b≤a
 |[],a,b,_,h=>by simp [List.foldlM] at h;omega
 |x::l,a,b,hf,h=>by
  simp only [List.foldlM,AU,AD] at h
  obtain ⟨c,hc,h⟩:=h
  have:=YZ l c b (fun y hy=>hf y (Am _ hy)) h
  have:=hf x (Ah ..) a c hc
  omega
end
theorem Su:∀(d q:Nat) (e:Ex) (r:Nat),vEx d q e=some r→r≤q
 |0,q,e,r,h=>by cases h
 |d+1,0,.mk ..,r,h=>by cases h
 |d+1,q+1,.mk o n u ns ks al,r,h=>by
  simp only [vEx] at h
  split at h
  · simp only [AD] at h
    obtain ⟨c,hc,h⟩:=h
    have h1:=YZ ks q c (fun x _ a b hab=>Su d a x b hab) hc
    have h2:=YZ al c r (fun x _ a b hab=>by cases x;exact Su d a _ b hab) h
    omega
  · cases h
def VXQ (enc:Nat→Int) (j d q:Nat) (e:Ex) (σ:AM) (v:AV) (σ':AM):Prop:=
 ∃b z,v= .d (.bool b)∧σ'=σ.AL j [.d (.int .i64 z)]∧b=(vEx d q e).isSome∧∀r,vEx d q e=some r→z=enc r
theorem VXQ.yes {enc:Nat→Int} {j d q:Nat} {e:Ex} {σ:AM} {P:Program} {f:FuncId} {args:List AV} {r:Nat} (h:AP P f args σ (VXQ enc j d q e σ)) (hr:vEx d q e=some r):AP P f args σ (fun v σ'=>v= .d (.bool true)∧σ'=σ.AL j [.d (.int .i64 (enc r))]):=
 h.mono (by
  rintro v σ' ⟨b,z,rfl,rfl,rfl,h⟩
  rw [h r hr,hr];exact ⟨rfl,rfl⟩)
theorem VXQ.no {enc:Nat→Int} {j d q:Nat} {e:Ex} {σ:AM} {P:Program} {f:FuncId} {args:List AV} (h:AP P f args σ (VXQ enc j d q e σ)) (hr:vEx d q e=none):AP P f args σ (fun v σ'=>v= .d (.bool false)∧∃z,σ'=σ.AL j [.d (.int .i64 z)]):=
 h.mono (by
  rintro v σ' ⟨b,z,rfl,rfl,rfl,h⟩
  rw [hr];exact ⟨rfl,z,rfl⟩)
def fK (d:Nat):Nat→Ex→Option Nat:=fun q e=>vEx d q e
def fA (d:Nat):Nat→Al→Option Nat:=fun q a=>match a with| .mk _ _ b=>vEx d q b
theorem Sv (d q:Nat) (o:Int) (n:Str) (u:Int) (ns:List Str) (ks:List Ex) (al:List Al):vEx (d+1) (q+1) (.mk o n u ns ks al)=if Fi o n u ns ks.length al then (ks.foldlM (fK d) q).bind fun q=>al.foldlM (fA d) q else none:=rfl
def M2 (r:Nat):Int:=((600 - r:Nat):Int)
set_option maxHeartbeats 4000000 in
theorem XH (j:Nat):∀(d q:Nat),d≤40→q≤600→∀(e:Ex) (σ:AM),σ.blk j=some [.d (.int .i64 (M2 q))]→
 AP Tryz.prog 53 [.gp j 0,exA e,.d (.int .i64 ((41 - d:Nat):Int))] σ (VXQ M2 j d q e σ):=by
 intro d
 induction d with
 |zero=>
  intro q _ hq e σ hj
  obtain ⟨o,n,u,ns,ks,al⟩:=e
  refine KC (by simp) ?_
  rw [Hg,exA,Ex.A2]
  have hw:IntKind.i64.wrap (M2 q+1)=((601 - q:Nat):Int):=by rw [M2,BF (by omega) (by omega)];omega
  have h4:decide ((40:Int) < ((41 - 0:Nat):Int))=true:=by decide
  (repeat' (first|refine Run.ct rfl ?_|((first|refine Run.reg mixed ?_|refine Run.AJ ?_|refine Run.GR CF (AM.le_refl _) ?_|(refine AQ rfl (fun h=>?_) (fun h=>?_)<;>try (cases h;done)))<;>try simp -implicitDefEqProofs only [hj,hw,h4,go_sem])|fail))
  all_goals exact ⟨false,_,rfl,rfl,rfl,fun r h=>by cases h⟩
 |succ d ihd=>
  intro q hd hq e σ hj
  obtain ⟨o,n,u,ns,ks,al⟩:=e
  refine KC (by simp) ?_
  rw [Hg,exA,Ex.A2]
  cases q with
  |zero=>
   have hw:IntKind.i64.wrap (M2 0+1)=601:=by decide
   have h6:decide ((600:Int) < 601)=true:=by decide
   (repeat' (first|refine Run.ct rfl ?_|((first|refine Run.reg mixed ?_|refine Run.AJ ?_|refine Run.GR CF (AM.le_refl _) ?_)<;>try simp -implicitDefEqProofs only [hj,hw,h6,go_sem])|fail))
   exact ⟨false,_,rfl,rfl,rfl,fun r h=>by cases h⟩
  |succ q=>
  have hw:IntKind.i64.wrap (M2 (q+1)+1)=M2 q:=by
   have e:M2 (q+1)+1=M2 q:=by simp only [M2];omega
   rw [e];exact BF (by simp only [M2];omega) (by simp only [M2];omega)
  have h6:decide ((600:Int) < M2 q)=false:=decide_eq_false (Int.not_lt.2 (by unfold M2;omega))
  have h4:decide ((40:Int) < ((41 - (d+1):Nat):Int))=false:=by simp only [decide_eq_false_iff_not];omega
  have hnode:=fE o n u ns ks al
  simp only [exA,Ex.A2,AF,AI] at hnode
  have hw2:IntKind.i64.wrap (((41 - (d+1):Nat):Int)+1)=((41 - d:Nat):Int):=by
   have e:((41 - (d+1):Nat):Int)+1=((41 - d:Nat):Int):=by omega
   rw [e];exact BF (by omega) (by omega)
  cases hn:Fi o n u ns ks.length al with
  |false=>
   rw [hn] at hnode
   (repeat' (first|refine Run.ct rfl ?_|((first|refine Run.reg mixed ?_|refine Run.AJ ?_|refine Run.GR CF (AM.le_refl _) ?_|refine AH.det (hnode _) ?_)<;>try simp -implicitDefEqProofs only [hj,hw,h6,h4,go_sem])|fail))
   exact ⟨false,_,rfl,rfl,by rw [Sv,if_neg (by simp [hn])];rfl,fun r h=>by rw [Sv,if_neg (by simp [hn])] at h;cases h⟩
  |true=>
  rw [hn] at hnode
  have hres:vEx (d+1) (q+1) (.mk o n u ns ks al)=(ks.foldlM (fK d) q).bind fun q=>al.foldlM (fA d) q:=by rw [Sv,if_pos hn]
  generalize hV:VXQ M2 j (d+1) (q+1) (.mk o n u ns ks al) σ=V
  have hno:∀z,vEx (d+1) (q+1) (.mk o n u ns ks al)=none→V (.d (.bool false)) (σ.AL j [.d (.int .i64 z)]):=fun z h=>by
   rw [← hV];exact ⟨false,z,rfl,rfl,by rw [h];rfl,fun r hr=>by rw [h] at hr;cases hr⟩
  have hyes:∀r,vEx (d+1) (q+1) (.mk o n u ns ks al)=some r→V (.d (.bool true)) (σ.AL j [.d (.int .i64 (M2 r))]):=fun z h=>by
   rw [← hV];exact ⟨true,_,rfl,rfl,by rw [h];rfl,fun r hr=>by rw [h] at hr;cases hr;rfl⟩
  clear hV
  (repeat' (first|refine Run.ct rfl ?_|((first|refine Run.reg mixed ?_|refine Run.AJ ?_|refine AH.det (hnode _) ?_)<;>try simp -implicitDefEqProofs only [hj,hw,h6,h4,AG,go_sem])|fail))
  refine Run.cell 4 4 rfl rfl (fun hb4=>?_)
  refine Run.cell 4 5 rfl rfl (fun hb5=>?_)
  simp only [AV.HR,AG] at hb4 hb5
  refine Run.Ba ?_
  refine Run.Bd ((fun (a0:AV) (a2:AV) (a4:AV) (a33:AV) (a34:AV)=>fun (y:Nat×Nat)=>put 0 a0 (put 2 a2 (put 4 a4 (put 33 a33 (put 34 a34 (put 35 (.d (.int .i64 y.1)) U)))))) _ _ _ _ _) (fun _=>B8 4 [.d (.int .i64 o),.d (.str n),.d (.int .i64 u),.d (.sl (ns.map B0)),.d (.sl (ks.map Ex.enc)),.d (.sl (al.map Al.enc))] E) (fun y=>σ.AL j [.d (.int .i64 (M2 y.2))])
   (fun y=>y.1≤ks.length∧y.2≤q∧(ks.take y.1).foldlM (fK d) q=some y.2) (fun y=>ks.length - y.1) ?_ (0,q) ⟨by simp,A9 _,rfl⟩
  rintro ⟨i,p⟩ ⟨hi,hp,hok⟩ ih
  simp only at hi hp hok
  by_cases hlt:i < ks.length
  · obtain ⟨x,hx⟩:=C7 hlt
    have he:=CR (enc:=Ex.enc) hx
    have hw1:IntKind.i64.wrap ((i:Int)+1)=((i+1:Nat):Int):=by rw [BF (by omega) (by omega)];omega
    have hc:=ihd p (by omega) (by omega) x (σ.AL j [.d (.int .i64 (M2 p))]) (by simp only [AO,if_true])
    cases hv:vEx d p x with
    |some r=>
     have hr:=Su _ _ _ _ hv
     have hc:=VXQ.yes hc hv
     have hs:=KM hok hx
     obtain ⟨xo,xn,xu,xs,xk,xa⟩:=x
     simp only [Ex.A2,exA,AF,AI] at he hc
     (repeat' (first|refine Run.ct rfl ?_|((first|refine Run.reg mixed ?_|refine Run.AJ ?_|(refine AH.mk rfl hc ?_;rintro _ _ ⟨rfl,rfl⟩))<;>try simp -implicitDefEqProofs only [BZ hlt,he,hw1,hw2,go_sem])|fail))
     exact ih (i+1,r) ⟨by simp only;omega,by simp only;omega,by simp only;rw [hs];exact hv⟩ (by simp only;omega)
    |none=>
     have hc:=VXQ.no hc hv
     have hs:=KL hok hx hv
     obtain ⟨xo,xn,xu,xs,xk,xa⟩:=x
     simp only [Ex.A2,exA,AF,AI] at he hc
     (repeat' (first|refine Run.ct rfl ?_|((first|refine Run.reg mixed ?_|refine Run.AJ ?_|refine Run.GR CF (AM.le_refl _) ?_|(refine AH.mk rfl hc ?_;rintro _ _ ⟨rfl,z,rfl⟩))<;>try simp -implicitDefEqProofs only [BZ hlt,he,hw1,hw2,go_sem])|fail))
     exact hno z (by rw [hres,hs];rfl)
  · rw [A8 (by omega)] at hok
    rw [hok,BY] at hres
    clear ih
    (repeat' (first|refine Run.ct rfl ?_|((first|refine Run.reg mixed ?_|refine Run.AJ ?_)<;>try simp -implicitDefEqProofs only [FD hlt,AG,go_sem])|fail))
    refine Run.Ba ?_
    refine Run.Bd ((fun (a0:AV) (a2:AV) (a47:AV) (a48:AV)=>fun (y:Nat×Nat)=>put 0 a0 (put 2 a2 (put 47 a47 (put 48 a48 (put 49 (.d (.int .i64 y.1)) U))))) _ _ _ _) (fun _=>E) (fun y=>σ.AL j [.d (.int .i64 (M2 y.2))])
     (fun y=>y.1≤al.length∧y.2≤q∧(al.take y.1).foldlM (fA d) p=some y.2) (fun y=>al.length - y.1) ?_ (0,p) ⟨by simp,hp,rfl⟩
    rintro ⟨i,p⟩ ⟨hi,hp,hok⟩ ih
    simp only at hi hp hok
    by_cases hlt:i < al.length
    · obtain ⟨x,hx⟩:=C7 hlt
      have he:=CR (enc:=Al.enc) hx
      have hw1:IntKind.i64.wrap ((i:Int)+1)=((i+1:Nat):Int):=by rw [BF (by omega) (by omega)];omega
      obtain ⟨xc,xv,x⟩:=x
      have hc:=ihd p (by omega) (by omega) x (σ.AL j [.d (.int .i64 (M2 p))]) (by simp only [AO,if_true])
      cases hv:vEx d p x with
      |some r=>
       have hr:=Su _ _ _ _ hv
       have hc:=VXQ.yes hc hv
       have hs:=KM hok hx
       obtain ⟨xo,xn,xu,xs,xk,xa⟩:=x
       simp only [Al.A2,Ex.A2,exA,AF,AI] at he hc
       (repeat' (first|refine Run.ct rfl ?_|((first|refine Run.reg mixed ?_|refine Run.AJ ?_|(refine AH.mk rfl hc ?_;rintro _ _ ⟨rfl,rfl⟩))<;>try simp -implicitDefEqProofs only [BZ hlt,he,hw1,hw2,go_sem])|fail))
       exact ih (i+1,r) ⟨by simp only;omega,by simp only;omega,by simp only;rw [hs];exact hv⟩ (by simp only;omega)
      |none=>
       have hc:=VXQ.no hc hv
       have hs:=KL hok hx hv
       obtain ⟨xo,xn,xu,xs,xk,xa⟩:=x
       simp only [Al.A2,Ex.A2,exA,AF,AI] at he hc
       (repeat' (first|refine Run.ct rfl ?_|((first|refine Run.reg mixed ?_|refine Run.AJ ?_|refine Run.GR CF (AM.le_refl _) ?_|(refine AH.mk rfl hc ?_;rintro _ _ ⟨rfl,z,rfl⟩))<;>try simp -implicitDefEqProofs only [BZ hlt,he,hw1,hw2,go_sem])|fail))
       exact hno z (by rw [hres,hs])
    · rw [A8 (by omega)] at hok
      (repeat' (first|refine Run.ct rfl ?_|((first|refine Run.reg mixed ?_|refine Run.AJ ?_|refine Run.GR CF (AM.le_refl _) ?_)<;>try simp -implicitDefEqProofs only [FD hlt,go_sem])|fail))
      exact hyes p (by rw [hres,hok])
theorem QW (u:Int) (σ:AM):AP Tryz.prog 111 [.d (.int .i64 u)] σ (fun v σ'=>v= .d (.int .i64 (He u))∧σ'=σ):=by
 refine Y8 (by simp) ?_
 rw [Av]
 by_cases h:1≤u∧u≤7
 · obtain ⟨h1,h2⟩:=h
   obtain rfl|rfl|rfl|rfl|rfl|rfl|rfl:u=1∨u=2∨u=3∨u=4∨u=5∨u=6∨u=7:=by omega
   all_goals (repeat' (first|refine Run.ct rfl ?_|((first|refine Run.reg mixed ?_|refine Run.AJ ?_|refine Run.Ad JM (AM.le_refl _) ?_)<;>try simp -implicitDefEqProofs only [Aj,Int.reduceLT,BA,Ap,go_sem])|(refine ⟨fun h=>?_,fun h=>?_⟩<;>first|(cases h;done)|try simp only [h])|fail))
   all_goals rfl
 · have hp:He u=0:=by
    have:=cK u;omega
   rw [hp]
   by_cases h1:u < 1
   · (repeat' (first|refine Run.ct rfl ?_|((first|refine Run.reg mixed ?_|refine Run.AJ ?_|refine Run.Ad JM (AM.le_refl _) ?_)<;>try simp -implicitDefEqProofs only [decide_eq_true h1,go_sem])|fail))
     rfl
   · have h8:decide (((8:Nat):Int)≤u)=true:=by simp;omega
     (repeat' (first|refine Run.ct rfl ?_|((first|refine Run.reg mixed ?_|refine Run.AJ ?_|refine Run.Ad JM (AM.le_refl _) ?_)<;>try simp -implicitDefEqProofs only [decide_eq_false h1,h8,go_sem])|fail))
     rfl
end Go.Ab
namespace Go.Ab
open Go.Proofs
def Wr (o:Int) (n:Str) (u:Int) (ns:List Str) (nk na:Nat):Bool:=
 nmB o n&&nuB o u&&nsB o ns&&(if o=10 then decide (1≤na) else decide (na=0))&&nkB o u nk
theorem Wq (o:Int) (n:Str) (u:Int) (ns:List Str) (nk:Nat) (al:List Al):Fi o n u ns nk al=(Wr o n u ns nk al.length&&al.all MY):=by
 unfold Fi Wr asB
 split
 · cases nmB o n<;>cases nuB o u<;>cases nsB o ns<;>cases nkB o u nk<;>simp
 · cases al with
   |nil=>simp
   |cons a l=>simp
theorem Po (l:List Str):Mo l false=(decide (l.length≤6)&&l.all GZ):=by
 unfold Mo
 congr 2
 funext s
 simp only [GZ,Bool.not_false,BH]
 exact Bool.or_comm _ _
theorem Rk (l:List Str):Mo l true=(decide (l.length≤6)&&l.all D5):=by
 unfold Mo
 congr 2
 funext s
 simp
def Gk (r:Nat):Int:=(r:Int)
set_option maxHeartbeats 4000000 in
theorem vK (j d q:Nat) (ihd:∀(q:Nat),q≤600→∀(e:Ex) (σ:AM),σ.blk j=some [.d (.int .i64 (Gk q))]→AP Tryz.prog 57 [exA e,.d (.int .i64 (d:Int)),.gp j 0] σ (VXQ Gk j d q e σ)) (hd:d < 40) (hq:q≤600)
 (o:Int) (n:Str) (u:Int) (ns:List Str) (ks:List Ex) (al:List Al) (σ:AM) (hnode:Wr o n u ns ks.length al.length=true):
 Run Fo (VXQ Gk j (d+1) (q+1) (.mk o n u ns ks al) σ) [.code (.loop OC),.blk 1,.code (.seq (.seq (.reg [⟨some 14,.mv (.c (.d (.int .i64 0))),none⟩] [1,2,3,14]) (.block 3 (.loop OD))) (.seq (.reg [⟨some 6,.mv (.c (.d (.bool true))),none⟩] [6]) .ret))]
  (put 1 (.d (.int .i64 ((d+1:Nat):Int))) (put 2 (.gp j 0) (put 3 (.lp 3 0) (put 13 (.d (.int .i64 0)) U)))) (B8 3 [.d (.int .i64 o),.d (.str n),.d (.int .i64 u),.d (.sl (ns.map B0)),.d (.sl (ks.map Ex.enc)),.d (.sl (al.map Al.enc))] E) (σ.AL j [.d (.int .i64 (Gk q))]):=by
 have hws:IntKind.i64.wrap (((d+1:Nat):Int) - 1)=(d:Int):=Ul (by omega)
 have hres:vEx (d+1) (q+1) (.mk o n u ns ks al)=if al.all MY then (ks.foldlM (fK d) q).bind fun q=>al.foldlM (fA d) q else none:=by rw [Sv,Wq,hnode,BJ]
 generalize hV:VXQ Gk j (d+1) (q+1) (.mk o n u ns ks al) σ=V
 have hno:∀z,vEx (d+1) (q+1) (.mk o n u ns ks al)=none→V (.d (.bool false)) (σ.AL j [.d (.int .i64 z)]):=fun z h=>by
  rw [← hV];exact ⟨false,z,rfl,rfl,by rw [h];rfl,fun r hr=>by rw [h] at hr;cases hr⟩
 have hyes:∀r,vEx (d+1) (q+1) (.mk o n u ns ks al)=some r→V (.d (.bool true)) (σ.AL j [.d (.int .i64 (Gk r))]):=fun z h=>by
  rw [← hV];exact ⟨true,_,rfl,rfl,by rw [h];rfl,fun r hr=>by rw [h] at hr;cases hr;rfl⟩
 clear hV
 refine Run.cell 3 4 rfl rfl (fun hb4=>?_)
 refine Run.cell 3 5 rfl rfl (fun hb5=>?_)
 simp only [AV.HR,AG] at hb4 hb5
 refine Run.Ba ?_
 refine Run.Bd ((fun (a1:AV) (a2:AV) (a3:AV)=>fun (y:Nat×Nat)=>put 1 a1 (put 2 a2 (put 3 a3 (put 13 (.d (.int .i64 y.1)) U)))) _ _ _) (fun _=>B8 3 [.d (.int .i64 o),.d (.str n),.d (.int .i64 u),.d (.sl (ns.map B0)),.d (.sl (ks.map Ex.enc)),.d (.sl (al.map Al.enc))] E) (fun y=>σ.AL j [.d (.int .i64 (Gk y.2))])
  (fun y=>y.1≤ks.length∧y.2≤q∧(ks.take y.1).foldlM (fK d) q=some y.2) (fun y=>ks.length - y.1) ?_ (0,q) ⟨by simp,A9 _,rfl⟩
 rintro ⟨i,p⟩ ⟨hi,hp,hok⟩ ih
 simp only at hi hp hok
 by_cases hlt:i < ks.length
 · obtain ⟨x,hx⟩:=C7 hlt
   have he:=CR (enc:=Ex.enc) hx
   have hw1:IntKind.i64.wrap ((i:Int)+1)=((i+1:Nat):Int):=by rw [BF (by omega) (by omega)];omega
   have hc:=ihd p (by omega) x (σ.AL j [.d (.int .i64 (Gk p))]) (by simp only [AO,if_true])
   cases hv:vEx d p x with
   |some r=>
    have hr:=Su _ _ _ _ hv
    have hc:=VXQ.yes hc hv
    have hs:=KM hok hx
    obtain ⟨xo,xn,xu,xs,xk,xa⟩:=x
    simp only [Ex.A2,exA,AF,AI] at he hc
    (repeat' (first|refine Run.ct rfl ?_|((first|refine Run.reg mixed ?_|refine Run.AJ ?_|(refine AH.mk rfl hc ?_;rintro _ _ ⟨rfl,rfl⟩))<;>try simp -implicitDefEqProofs only [BZ hlt,he,hw1,hws,AG,go_sem])|fail))
    exact ih (i+1,r) ⟨by simp only;omega,by simp only;omega,by simp only;rw [hs];exact hv⟩ (by simp only;omega)
   |none=>
    have hc:=VXQ.no hc hv
    have hs:=KL hok hx hv
    obtain ⟨xo,xn,xu,xs,xk,xa⟩:=x
    simp only [Ex.A2,exA,AF,AI] at he hc
    (repeat' (first|refine Run.ct rfl ?_|((first|refine Run.reg mixed ?_|refine Run.AJ ?_|refine Run.GR CY (AM.le_refl _) ?_|(refine AH.mk rfl hc ?_;rintro _ _ ⟨rfl,z,rfl⟩))<;>try simp -implicitDefEqProofs only [BZ hlt,he,hw1,hws,AG,go_sem])|fail))
    refine hno z ?_
    rw [hres,hs];split<;>rfl
 · rw [A8 (by omega)] at hok
   rw [hok,BY] at hres
   clear ih
   (repeat' (first|refine Run.ct rfl ?_|((first|refine Run.reg mixed ?_|refine Run.AJ ?_)<;>try simp -implicitDefEqProofs only [FD hlt,AG,go_sem])|fail))
   refine Run.Ba ?_
   refine Run.Bd ((fun (a1:AV) (a2:AV) (a3:AV)=>fun (y:Nat×Nat)=>put 1 a1 (put 2 a2 (put 3 a3 (put 14 (.d (.int .i64 y.1)) U)))) _ _ _) (fun _=>B8 3 [.d (.int .i64 o),.d (.str n),.d (.int .i64 u),.d (.sl (ns.map B0)),.d (.sl (ks.map Ex.enc)),.d (.sl (al.map Al.enc))] E) (fun y=>σ.AL j [.d (.int .i64 (Gk y.2))])
    (fun y=>y.1≤al.length∧y.2≤q∧(al.take y.1).all MY=true∧(al.take y.1).foldlM (fA d) p=some y.2) (fun y=>al.length - y.1) ?_ (0,p) ⟨by simp,hp,by simp,rfl⟩
   rintro ⟨i,p⟩ ⟨hi,hp,hab,hok⟩ ih
   simp only at hi hp hab hok
   by_cases hlt:i < al.length
   · obtain ⟨x,hx⟩:=C7 hlt
     have he:=CR (enc:=Al.enc) hx
     have hw1:IntKind.i64.wrap ((i:Int)+1)=((i+1:Nat):Int):=by rw [BF (by omega) (by omega)];omega
     cases halt:MY x with
     |false=>
      have hna:al.all MY=false:=Xx hx halt
      rw [hna] at hres
      have hnz:=hno (Gk p) (by rw [hres];rfl)
      obtain ⟨xc,xv,xo,xn,xu,xs,xk,xa⟩:=x
      simp only [Al.A2] at he
      cases hup:upperB xc with
      |false=>
       have h1:=DP xc 2 (σ.AL j [.d (.int .i64 (Gk p))])
       rw [show GS 2 xc=upperB xc from rfl,hup] at h1
       (repeat' (first|refine Run.ct rfl ?_|((first|refine Run.reg mixed ?_|refine Run.AJ ?_|refine Run.GR CY (AM.le_refl _) ?_|refine AH.det (h1) ?_)<;>try simp -implicitDefEqProofs only [BZ hlt,he,hw1,hws,AG,go_sem])|fail))
       exact hnz
      |true=>
       have h1:=DP xc 2 (σ.AL j [.d (.int .i64 (Gk p))])
       rw [show GS 2 xc=upperB xc from rfl,hup] at h1
       have h2:=Ik xv false (σ.AL j [.d (.int .i64 (Gk p))])
       have hb:Mo xv false=false:=by
        rw [Po]
        simp only [MY,hup,BJ] at halt
        exact halt
       rw [hb] at h2
       (repeat' (first|refine Run.ct rfl ?_|((first|refine Run.reg mixed ?_|refine Run.AJ ?_|refine Run.GR CY (AM.le_refl _) ?_|refine AH.det (h1) ?_|refine AH.det (h2) ?_)<;>try simp -implicitDefEqProofs only [BZ hlt,he,hw1,hws,AG,go_sem])|fail))
       exact hnz
     |true=>
      have hab2:=Kg hab hx halt
      obtain ⟨xc,xv,x⟩:=x
      have hup:upperB xc=true:=by simp only [MY,AN] at halt;exact halt.1.1
      have hbn:Mo xv false=true:=by rw [Po];simp only [MY,AN] at halt ⊢;exact ⟨halt.1.2,halt.2⟩
      have h1:=DP xc 2 (σ.AL j [.d (.int .i64 (Gk p))])
      rw [show GS 2 xc=upperB xc from rfl,hup] at h1
      have h2:=Ik xv false (σ.AL j [.d (.int .i64 (Gk p))])
      rw [hbn] at h2
      have hc:=ihd p (by omega) x (σ.AL j [.d (.int .i64 (Gk p))]) (by simp only [AO,if_true])
      cases hv:vEx d p x with
      |some r=>
       have hr:=Su _ _ _ _ hv
       have hc:=VXQ.yes hc hv
       have hs:=KM hok hx
       obtain ⟨xo,xn,xu,xs,xk,xa⟩:=x
       simp only [Al.A2,Ex.A2,exA,AF,AI] at he hc
       (repeat' (first|refine Run.ct rfl ?_|((first|refine Run.reg mixed ?_|refine Run.AJ ?_|(refine AH.mk rfl hc ?_;rintro _ _ ⟨rfl,rfl⟩)|refine AH.det (h1) ?_|refine AH.det (h2) ?_)<;>try simp -implicitDefEqProofs only [BZ hlt,he,hw1,hws,AG,go_sem])|fail))
       exact ih (i+1,r) ⟨by simp only;omega,by simp only;omega,hab2,by simp only;rw [hs];exact hv⟩ (by simp only;omega)
      |none=>
       have hc:=VXQ.no hc hv
       have hs:=KL hok hx hv
       obtain ⟨xo,xn,xu,xs,xk,xa⟩:=x
       simp only [Al.A2,Ex.A2,exA,AF,AI] at he hc
       (repeat' (first|refine Run.ct rfl ?_|((first|refine Run.reg mixed ?_|refine Run.AJ ?_|refine Run.GR CY (AM.le_refl _) ?_|(refine AH.mk rfl hc ?_;rintro _ _ ⟨rfl,z,rfl⟩)|refine AH.det (h1) ?_|refine AH.det (h2) ?_)<;>try simp -implicitDefEqProofs only [BZ hlt,he,hw1,hws,AG,go_sem])|fail))
       refine hno z ?_
       rw [hres,hs];split<;>rfl
   · rw [A8 (by omega)] at hok hab
     (repeat' (first|refine Run.ct rfl ?_|((first|refine Run.reg mixed ?_|refine Run.AJ ?_|refine Run.GR CY (AM.le_refl _) ?_)<;>try simp -implicitDefEqProofs only [FD hlt,AG,go_sem])|fail))
     exact hyes p (by rw [hres,hab,if_pos rfl,hok])
end Go.Ab
namespace Go.Ab
open Go.Proofs
def pF (nm nu nn na:Bool) (lo hi:Nat) (n:Str) (u:Int) (a k b:Nat):Bool:=
 (nm||n==[])&&(nu||u==0)&&(nn||decide (a=0))&&(na||decide (b=0))&&decide (lo≤k)&&decide (k≤hi)
set_option maxHeartbeats 4000000 in
theorem vJ (o:Int) (n:Str) (u:Int) (ns:List Str) (ks:List Ex) (al:List Al) (d j:Nat) (σ:AM) (nm nu nn na:Bool) (lo hi:Nat):
 BN Tryz.prog (Cut [1,2,3,201] (put 1 (.d (.int .i64 ((d+1:Nat):Int))) (put 2 (.gp j 0) (put 3 (.lp 3 0) (put 201 (.d (.bool (!pF nm nu nn na lo hi n u ns.length ks.length al.length))) U)))) (B8 3 [.d (.int .i64 o),.d (.str n),.d (.int .i64 u),.d (.sl (ns.map B0)),.d (.sl (ks.map Ex.enc)),.d (.sl (al.map Al.enc))] E) σ)
  [⟨some 152,.mv (.t 7),none⟩,⟨some 153,.un .not (.t 152),none⟩,⟨some 154,.mv (.t 153),none⟩,⟨some 155,.fld (.t 3) 1,some (154,true)⟩,⟨some 156,.ldl (.t 155) none,some (154,true)⟩,⟨some 157,.bin .neq (.t 156) (.c (.d (.str []))),some (154,true)⟩,⟨some 158,.pick (.t 154) (.t 157) (.c (.d (.bool false))),none⟩,⟨some 159,.mv (.t 158),none⟩,⟨some 160,.mv (.t 8),some (159,false)⟩,⟨some 161,.un .not (.t 160),some (159,false)⟩,⟨some 162,.mv (.t 161),some (159,false)⟩,⟨some 163,.fld (.t 3) 2,some (162,true)⟩,⟨some 164,.ldl (.t 163) none,some (162,true)⟩,⟨some 165,.bin .neq (.t 164) (.c (.d (.int .i64 0))),some (162,true)⟩,⟨some 166,.pick (.t 162) (.t 165) (.c (.d (.bool false))),some (159,false)⟩,⟨some 167,.pick (.t 159) (.c (.d (.bool true))) (.t 166),none⟩,⟨some 168,.mv (.t 167),none⟩,⟨some 169,.mv (.t 9),some (168,false)⟩,⟨some 170,.un .not (.t 169),some (168,false)⟩,⟨some 171,.mv (.t 170),some (168,false)⟩,⟨some 172,.fld (.t 3) 3,some (171,true)⟩,⟨some 173,.ldl (.t 172) none,some (171,true)⟩,⟨some 174,.len (.t 173),some (171,true)⟩,⟨some 175,.bin .gtr (.t 174) (.c (.d (.int .i64 0))),some (171,true)⟩,⟨some 176,.pick (.t 171) (.t 175) (.c (.d (.bool false))),some (168,false)⟩,⟨some 177,.pick (.t 168) (.c (.d (.bool true))) (.t 176),none⟩,⟨some 178,.mv (.t 177),none⟩,⟨some 179,.mv (.t 10),some (178,false)⟩,⟨some 180,.un .not (.t 179),some (178,false)⟩,⟨some 181,.mv (.t 180),some (178,false)⟩,⟨some 182,.fld (.t 3) 5,some (181,true)⟩,⟨some 183,.ldl (.t 182) none,some (181,true)⟩,⟨some 184,.len (.t 183),some (181,true)⟩,⟨some 185,.bin .gtr (.t 184) (.c (.d (.int .i64 0))),some (181,true)⟩,⟨some 186,.pick (.t 181) (.t 185) (.c (.d (.bool false))),some (178,false)⟩,⟨some 187,.pick (.t 178) (.c (.d (.bool true))) (.t 186),none⟩,⟨some 188,.mv (.t 187),none⟩,⟨some 189,.fld (.t 3) 4,some (188,false)⟩,⟨some 190,.ldl (.t 189) none,some (188,false)⟩,⟨some 191,.len (.t 190),some (188,false)⟩,⟨some 192,.mv (.t 11),some (188,false)⟩,⟨some 193,.bin .lss (.t 191) (.t 192),some (188,false)⟩,⟨some 194,.pick (.t 188) (.c (.d (.bool true))) (.t 193),none⟩,⟨some 195,.mv (.t 194),none⟩,⟨some 196,.fld (.t 3) 4,some (195,false)⟩,⟨some 197,.ldl (.t 196) none,some (195,false)⟩,⟨some 198,.len (.t 197),some (195,false)⟩,⟨some 199,.mv (.t 12),some (195,false)⟩,⟨some 200,.bin .gtr (.t 198) (.t 199),some (195,false)⟩,⟨some 201,.pick (.t 195) (.c (.d (.bool true))) (.t 200),none⟩]
  (put 1 (.d (.int .i64 ((d+1:Nat):Int))) (put 2 (.gp j 0) (put 3 (.lp 3 0) (put 7 (.d (.bool nm)) (put 8 (.d (.bool nu)) (put 9 (.d (.bool nn)) (put 10 (.d (.bool na)) (put 11 (.d (.int .i64 (lo:Nat))) (put 12 (.d (.int .i64 (hi:Nat))) U))))))))) (B8 3 [.d (.int .i64 o),.d (.str n),.d (.int .i64 u),.d (.sl (ns.map B0)),.d (.sl (ks.map Ex.enc)),.d (.sl (al.map Al.enc))] E) σ:=by
 have fin:∀(b c:Bool),(b=true↔c=true)→∀(a1 a2 a3:AV),(put 1 a1 (put 2 a2 (put 3 a3 (put 201 (.d (.bool b)) U))))=put 1 a1 (put 2 a2 (put 3 a3 (put 201 (.d (.bool c)) U))):=fun b c h a1 a2 a3=>by rw [Dn.2 h]
 simp -implicitDefEqProofs only [J4,go_sem]
 (repeat' (first|refine Run.ct rfl ?_|(refine fG (by first|exact GV.t|exact GV.f|exact GV.st|exact GV.sf) ⟨?_,fun h=>?_,?_⟩;rotate_left;(focus ((try simp only [AN,Bool.not_not] at h);simp -implicitDefEqProofs only [AG,J4,gtN,ltN,go_sem];first|exact Is.mk|exact Is.pv (by simp -implicitDefEqProofs only [h,ZX,↓Lq,↓Qu,↓Lr,AG,J4,gtN,ltN,go_sem];rfl)));(try simp -implicitDefEqProofs only [OH,Sj,Sk,↓Lq,↓Qu,↓Lr,AG,J4,gtN,ltN,Lt,go_sem]))|((first|refine Run.reg mixed ?_|refine Run.AJ ?_)<;>try simp -implicitDefEqProofs only [OH,Sj,Sk,↓Lq,↓Qu,↓Lr,AG,J4,gtN,ltN,go_sem])|fail))
 refine fin _ _ ?_ _ _ _
 simp only [pF]
 simp [bne]
 grind
set_option maxHeartbeats 8000000 in
theorem XR (j:Nat):∀(d q:Nat),d≤40→q≤600→∀(e:Ex) (σ:AM),σ.blk j=some [.d (.int .i64 (Gk q))]→
 AP Tryz.prog 57 [exA e,.d (.int .i64 (d:Int)),.gp j 0] σ (VXQ Gk j d q e σ):=by
 intro d
 induction d with
 |zero=>
  intro q _ hq e σ hj
  obtain ⟨o,n,u,ns,ks,al⟩:=e
  refine SC (by simp) ?_
  rw [Hg,exA,Ex.A2]
  have h0:(((0:Nat):Int)==0)=true:=by decide
  (repeat' (first|refine Run.ct rfl ?_|((first|refine Run.reg mixed ?_|refine Run.AJ ?_|refine Run.GR CY (AM.le_refl _) ?_)<;>try simp -implicitDefEqProofs only [h0,go_sem])|fail))
  exact ⟨false,Gk q,rfl,(Il hj).symm,rfl,fun r h=>by cases h⟩
 |succ d ihd=>
  intro q hd hq e σ hj
  obtain ⟨o,n,u,ns,ks,al⟩:=e
  refine SC (by simp) ?_
  rw [Hg,exA,Ex.A2]
  have h0:(((d+1:Nat):Int)==0)=false:=by simp only [beq_eq_false_iff_ne,ne_eq];omega
  cases q with
  |zero=>
   have hz:(Gk 0==0)=true:=by decide
   (repeat' (first|refine Run.ct rfl ?_|((first|refine Run.reg mixed ?_|refine Run.AJ ?_|refine Run.GR CY (AM.le_refl _) ?_)<;>try simp -implicitDefEqProofs only [h0,hj,hz,go_sem])|fail))
   exact ⟨false,Gk 0,rfl,(Il hj).symm,rfl,fun r h=>by cases h⟩
  |succ q=>
  have hz:(Gk (q+1)==0)=false:=by simp only [Gk,beq_eq_false_iff_ne,ne_eq];omega
  have hwq:IntKind.i64.wrap (Gk (q+1) - 1)=Gk q:=Ul (by omega)
  have hL:=fun h=>vK j d q (fun q hq e σ h=>ihd q (by omega) hq e σ h) (by omega) (by omega) o n u ns ks al σ h
  have hbt:=Ik ns true (σ.AL j [.d (.int .i64 (Gk q))])
  have hbf:=Ik ns false (σ.AL j [.d (.int .i64 (Gk q))])
  have hfail:Wr o n u ns ks.length al.length=false→VXQ Gk j (d+1) (q+1) (.mk o n u ns ks al) σ (.d (.bool false)) (σ.AL j [.d (.int .i64 (Gk q))]):=fun h=>
   have hr:vEx (d+1) (q+1) (.mk o n u ns ks al)=none:=by rw [Sv,Wq,h];rfl
   ⟨false,_,rfl,rfl,by rw [hr];rfl,fun r h=>by rw [hr] at h;cases h⟩
  generalize hV:VXQ Gk j (d+1) (q+1) (.mk o n u ns ks al) σ=V at hL hfail
  clear ihd hV
  (repeat' (first|refine Run.cb rfl ?_|((first|refine Run.reg mixed ?_|refine Run.AJ ?_)<;>try simp -implicitDefEqProofs only [h0,hj,hz,hwq,go_sem])|fail))
  refine Run.ABP (α:=Bool×Bool×Bool×Bool×Nat×Nat) [1,2,3,7,8,9,10,11,12] (fun a=>put 1 (.d (.int .i64 ((d+1:Nat):Int))) (put 2 (.gp j 0) (put 3 (.lp 3 0) (put 7 (.d (.bool a.1)) (put 8 (.d (.bool a.2.1)) (put 9 (.d (.bool a.2.2.1)) (put 10 (.d (.bool a.2.2.2.1)) (put 11 (.d (.int .i64 (a.2.2.2.2.1:Nat))) (put 12 (.d (.int .i64 (a.2.2.2.2.2:Nat))) U))))))))) (B8 3 [.d (.int .i64 o),.d (.str n),.d (.int .i64 u),.d (.sl (ns.map B0)),.d (.sl (ks.map Ex.enc)),.d (.sl (al.map Al.enc))] E) (σ.AL j [.d (.int .i64 (Gk q))]) (fun a=>Wr o n u ns ks.length al.length=pF a.1 a.2.1 a.2.2.1 a.2.2.2.1 a.2.2.2.2.1 a.2.2.2.2.2 n u ns.length ks.length al.length) ?_ ?_
  · rintro ⟨nm,nu,nn,na,lo,hi⟩ hI
    simp only at hI ⊢
    (repeat (first
    |refine Run.seq ?_
    |refine Run.skip ?_
    |refine Run.block ?_
    |refine Run.blk ?_
    |refine Run.scope ?_
    |refine Run.scp ?_
    |(refine Run.exit rfl ?_)))
    refine Run.ABY mixed (put 1 (.d (.int .i64 ((d+1:Nat):Int))) (put 2 (.gp j 0) (put 3 (.lp 3 0) (put 201 (.d (.bool (!pF nm nu nn na lo hi n u ns.length ks.length al.length))) U)))) (B8 3 [.d (.int .i64 o),.d (.str n),.d (.int .i64 u),.d (.sl (ns.map B0)),.d (.sl (ks.map Ex.enc)),.d (.sl (al.map Al.enc))] E) (σ.AL j [.d (.int .i64 (Gk q))]) ?_ ?_
    · exact vJ o n u ns ks al d j _ nm nu nn na lo hi
    · cases hc:pF nm nu nn na lo hi n u ns.length ks.length al.length with
      |true=>
       (repeat' (first|refine Run.ct rfl ?_|((first|refine Run.reg mixed ?_|refine Run.AJ ?_)<;>try simp -implicitDefEqProofs only [hc,go_sem])|fail))
       exact hL (hI.trans hc)
      |false=>
       (repeat' (first|refine Run.ct rfl ?_|((first|refine Run.reg mixed ?_|refine Run.AJ ?_|refine Run.GR CY (AM.le_refl _) ?_)<;>try simp -implicitDefEqProofs only [go_sem])|fail))
       exact hfail (hI.trans hc)
  · intro hrest
    clear hL
    have key:=fun (F':Fm) (L':Lm) (nm nu nn na:Bool) (lo hi:Nat) h1 h2 h3=>hrest F' L' (nm,nu,nn,na,lo,hi) h1 h2 h3
    simp only at key
    clear hrest
    have fin:∀b c:Bool,(b=true↔c=true)→b=c:=fun b c h=>Dn.2 h
    by_cases ho:o=1∨o=2∨o=3∨o=4∨o=5∨o=6∨o=7∨o=8∨o=9∨o=10∨o=11∨o=12∨o=13∨o=14∨o=15∨o=16∨o=17
    · rcases ho with rfl|rfl|rfl|rfl|rfl|rfl|rfl|rfl|rfl|rfl|rfl|rfl|rfl|rfl|rfl|rfl|rfl
      all_goals (repeat' (first|(refine key _ _ ?_ ?_ ?_ ?_ ?_ ?_ ?_ ?_ ?_;rotate_left 6;(focus (simp only [go_sem];rfl));(focus (simp only [go_sem])))|refine Run.ct rfl ?_|(refine fG (by first|exact GV.t|exact GV.f|exact GV.st|exact GV.sf) ⟨?_,fun h=>?_,?_⟩;rotate_left;(focus ((try simp only [AN,Bool.not_not] at h);simp -implicitDefEqProofs only [AS,AG,EB,go_sem];first|exact Is.mk|exact Is.pv (by simp -implicitDefEqProofs only [h,ZX,↓Lq,↓Qu,↓Lr,AS,AG,EB,go_sem];rfl)|(refine AH.det (DP _ _ _) ?_;exact Is.mk)|(refine AH.det (QW _ _) ?_;exact Is.mk)|(refine AH.det (hbt) ?_;exact Is.mk)|(refine AH.det (hbf) ?_;exact Is.mk)|(refine AH.kF (by simp only [h,ZX];rfl) ?_;first|(refine AH.det (DP _ _ _) ?_;exact Is.mk)|(refine AH.det (QW _ _) ?_;exact Is.mk)|(refine AH.det (hbt) ?_;exact Is.mk)|(refine AH.det (hbf) ?_;exact Is.mk))));(try simp -implicitDefEqProofs only [OH,Sj,Sk,↓Lq,↓Qu,↓Lr,AS,AG,EB,Lt,go_sem]))|((first|refine Run.reg mixed ?_|refine Run.AJ ?_|refine Run.GR CY (AM.le_refl _) ?_|refine AH.det (DP _ _ _) ?_|refine AH.det (QW _ _) ?_|refine AH.det (hbt) ?_|refine AH.det (hbf) ?_)<;>try simp -implicitDefEqProofs only [OH,Sj,Sk,↓Lq,↓Qu,↓Lr,AS,AG,EB,go_sem])|(refine ⟨fun h=>?_,fun h=>?_⟩<;>first|(cases h;done)|try simp only [h])|fail))
      all_goals clear key
      all_goals (try refine hfail ?_)
      all_goals clear hfail hbt hbf hj hz hwq h0
      all_goals (refine fin _ _ ?_;simp [Wr,pF,nmB,nuB,nsB,nkB,D5,upperB,GZ,Rk,Po, *] at *;try grind)
    · have hn:Wr o n u ns ks.length al.length=false:=by
       simp only [not_or] at ho
       simp [Wr,nkB,ho]
      simp only [not_or] at ho
      obtain ⟨h1,h2,h3,h4,h5,h6,h7,h8,h9,h10,h11,h12,h13,h14,h15,h16,h17⟩:=ho
      (repeat' (first|refine Run.ct rfl ?_|((first|refine Run.reg mixed ?_|refine Run.AJ ?_|refine Run.GR CY (AM.le_refl _) ?_)<;>try simp -implicitDefEqProofs only [Bq h1,Bq h2,Bq h3,Bq h4,Bq h5,Bq h6,Bq h7,Bq h8,Bq h9,Bq h10,Bq h11,Bq h12,Bq h13,Bq h14,Bq h15,Bq h16,Bq h17,go_sem])|fail))
      exact hfail hn
end Go.Ab
