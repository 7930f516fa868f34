/- Part Uf. Conditions: none. -/
import Derived.Test.YtofehhbehegimaaGreatDoorXAb10c
set_option linter.unusedSimpArgs false
set_option linter.unusedVariables false
set_option maxRecDepth 100000
set_option maxHeartbeats 40000000
set_option linter.defProp false
open Go.Proofs.Tryz renaming prog→Tzp
open List renaming take_append_drop→A7,mem_cons_of_mem→AU,mem_cons_self→AW,map_cons→AF,map_nil→AN,length_map→AA,take_of_length_le→AP,mem_of_getElem?→AD,length_cons→A0,length_nil→Bw,filter_append→QN,append_nil→Bu,contains_cons→QM,append_assoc→Aq,nil_append→Ag,cons_append→AX,contains_iff_mem→Ar,mem_append→AZ,mem_singleton→A3,length_append→AY,length_take→B5,mem_cons→Az,getElem?_eq_some_iff→AE,findIdx?_eq_some_iff_getElem→AO7,set_eq_take_append_cons_drop→AO8,replicate→AG,replicate_succ→BV,flatten_cons→BW,nodup_cons→ZZ,range→Av,ext_getElem?→Et,getElem?_eq_none→BM,map_congr_left→FA,getElem?_set→B3,all_eq_true→Aj,nodup_append→G6,mem_map→B8,mem_range→Bz,length_replicate→Vs,length_pos_iff→Iu,getElem?_map→Am,getElem?_take→B2,getElem?_drop→BN,all_cons→BO,all_nil→Cq,drop_of_length_le→KW,getD_eq_getElem?_getD→A2,flatMap_cons→DJ,getElem?_append_left→BC,take_append_of_le_length→XH,length_drop→Df,getElem?_append_right→As,getElem?_cons_zero→Aw,take→G7,drop→Fk,eq_nil_of_length_eq_zero→An,drop_zero→TG,drop_drop→Es,mem_of_mem_take→CZ,sum_cons→Er,mem_map_of_mem→aJ,length_filter_le→L2,length_set→Kb,map_append→Ao,length_singleton→Bm,getElem?_set_self→BK,getElem?_set_ne→BJ,countP_cons→Fj,countP_le_length→Vr,foldl_cons→Au,getElem?_eq_getElem→Ay,getElem_mem→E5,set_cons_succ→CR,take_length_add_append→bI,drop_length_add_append→HD,take_zero→C0,foldl_append→Ch,take_length→BQ,take_succ_cons→C7,drop_succ_cons→Ez,range'→A8,set_cons_zero→KY
open Option renaming bind_eq_bind→AT,bind_eq_some_iff→AB,bind_some→E6,map_eq_some_iff→AK,map_some→Ac,isSome_some→H6,isSome_none→H5,isSome_iff_exists→mS,getD_some→BA
open Nat renaming le_refl→AS,zero_add→BF,reduceEqDiff→HN,min_eq_left→FN,mul_one→A9,strongRecOn→Cc,lt_or_ge→C8,add_sub_cancel_left→RJ,zero_mul→Nb,le_trans→Af,add_zero→CF
open Int renaming reduceToNat→QK,reduceBEq→Aa,eq_ofNat_of_zero_le→G5
open Bool renaming not_false→Iv,and_true→BU,true_and→Bk,and_eq_true→AO,eq_iff_iff→Ak,not_not→N6,and_false→Cy,not_eq_true'→Br,and_self→XB,false_or→Ep,or_eq_true→Cb,eq_false_iff→CX,or_eq_false_iff→CY,not_true→XC,true_or→N7,false_and→Mk,false_eq_true→A1,or_false→L1
open Prod.mk renaming injEq→BZ
open Option.some renaming injEq→AM
open Except.ok renaming injEq→EN
open Except renaming map→C4
open Ne renaming symm→A6
namespace Go.Ab
open Go.Proofs
variable {F F':Fm} {L:Lm} {Y σ' σ0 τ τ':AH} {a b e i j' jr k n q r:Nat} {cs:List AV} {dl dt:List Dat} {ds:List (Str×Nat)} {fl:Bool} {p:Pg} {s:Str} {v:AV} {xs:List (Nat×Nat)}
section
variable {α β:Type}
def MC {f:β->α->Option β} {l:List α} {x:α} {a b:β} (h:(l.take i).foldlM f a=some b) (Z:l[i]?=some x):(l.take (i+1)).foldlM f a=f b x:=by
 rw [A5 Z,List.foldlM_append,h];simp [List.foldlM]
def MB {f:β->α->Option β} {l:List α} {x:α} {a b:β} (h:(l.take i).foldlM f a=some b) (Z:l[i]?=some x) (hn:f b x=none):l.foldlM f a=none:=by
 conv=>lhs;rw [<- A7 i l]
 rw [List.foldlM_append,h,By Z];simp [List.foldlM,hn]
def qZ {f:Nat->α->Option Nat}:∀(l:List α) (a b:Nat),(∀x∈l,∀a b,f a x=some b->b<=a)->l.foldlM f a=some b->b<=a
 |[],a,b,_,h=>by simp [List.foldlM] at h;omega
 |x::l,a,b,hf,h=>by
  simp only [List.foldlM,AT,AB] at h;obtain ⟨c,hc,h⟩:=h;have:=qZ l c b (fun y hy=>hf y (AU _ hy)) h;have:=hf x (AW ..) a c hc;omega
end
def Yt:∀(d q:Nat) (e:Ex) (r:Nat),vEx d q e=some r->r<=q
 |0,q,e,r,h=>by cases h
 |d+1,0,.mk ..,r,h=>by cases h
 |d+1,q+1,.mk o n u ns ks al,r,h=>by
  simp only [vEx] at h;split at h
  . simp only [AB] at h;obtain ⟨c,hc,h⟩:=h;have h1:=qZ ks q c (fun x _ a b hab=>Yt d a x b hab) hc;have h2:=qZ al c r (fun x _ a b hab=>by cases x;exact Yt d a _ b hab) h;omega
  . cases h
def VXQ (enc:Nat->Int) (j d q:Nat) (e:Ex) (Y:AH) (v:AV) (σ':AH):Prop:=
 ∃b z,v= .d (.bool b)/\σ'=Y.AL j [.d (.int .i64 z)]/\b=(vEx d q e).isSome/\∀r,vEx d q e=some r->z=enc r
def VXQ.yes {enc:Nat->Int} {j d:Nat} {e:Ex} {P:Program} {f:FuncId} {args:List AV} (h:AR P f args Y (VXQ enc j d q e Y)) (hr:vEx d q e=some r):AR P f args Y (fun v σ'=>v= .d (.bool true)/\σ'=Y.AL j [.d (.int .i64 (enc r))]):=
 h.mono (by
  rintro v σ' ⟨b,z,rfl,rfl,rfl,h⟩;rw [h r hr,hr];exact ⟨rfl,rfl⟩)
def VXQ.no {enc:Nat->Int} {j d:Nat} {e:Ex} {P:Program} {f:FuncId} {args:List AV} (h:AR P f args Y (VXQ enc j d q e Y)) (hr:vEx d q e=none):AR P f args Y (fun v σ'=>v= .d (.bool false)/\∃z,σ'=Y.AL j [.d (.int .i64 z)]):=
 h.mono (by
  rintro v σ' ⟨b,z,rfl,rfl,rfl,h⟩;rw [hr];exact ⟨rfl,z,rfl⟩)
def fK (d:Nat):Nat->Ex->Option Nat:=fun q e=>vEx d q e
def fA (d:Nat):Nat->Al->Option Nat:=fun q a=>match a with| .mk _ _ b=>vEx d q b
def Yu (d q:Nat) (o:Int) (n:Str) (u:Int) (ns:List Str) (ks:List Ex) (al:List Al):vEx (d+1) (q+1) (.mk o n u ns ks al)=if R4 o n u ns ks.length al then (ks.foldlM (fK d) q).bind fun q=>al.foldlM (fA d) q else none:=rfl
def Oc (r:Nat):Int:=((600 - r:Nat):Int)
def nK (j:Nat):∀(d q:Nat),d<=40->q<=600->∀(e:Ex) (Y:AH),Y.blk j=some [.d (.int .i64 (Oc q))]->
 AR Tzp 126 [.gp j 0,exA e,.d (.int .i64 ((41 - d:Nat):Int))] Y (VXQ Oc j d q e Y):=by
 intro d
 induction d with
 |zero=>
  intro q _ hq e Y hj;obtain ⟨o,n,u,ns,ks,al⟩:=e;refine Lh (by simp) ?_;rw [DK,exA,Ex.A4];have hw:IntKind.i64.wrap (Oc q+1)=((601 - q:Nat):Int):=by rw [Oc,D4 (by omega) (by omega)];omega
  have h4:decide ((40:Int) < ((41 - 0:Nat):Int))=true:=by decide
  (repeat' ((first|refine wR ?_|(refine Ae rfl (fun h=>?_) (fun h=>?_)<;>try (cases h;done))|fail)<;>try simp only [hj,hw,h4,go_sem]))
  all_goals exact ⟨false,_,rfl,rfl,rfl,fun r h=>by cases h⟩
 |succ d ihd=>
  intro q hd hq e Y hj;obtain ⟨o,n,u,ns,ks,al⟩:=e;refine Lh (by simp) ?_;rw [DK,exA,Ex.A4];cases q with
  |zero=>
   have hw:IntKind.i64.wrap (Oc 0+1)=601:=by decide
   have h6:decide ((600:Int) < 601)=true:=by decide
   (repeat' (refine wR ?_<;>try simp only [hj,hw,h6,go_sem]));exact ⟨false,_,rfl,rfl,rfl,fun r h=>by cases h⟩
  |succ q=>
  have hw:IntKind.i64.wrap (Oc (q+1)+1)=Oc q:=by
   have e:Oc (q+1)+1=Oc q:=by simp only [Oc];omega
   rw [e];exact D4 (by simp only [Oc];omega) (by simp only [Oc];omega)
  have h6:decide ((600:Int) < Oc q)=false:=decide_eq_false (Int.not_lt.2 (by unfold Oc;omega));have h4:decide ((40:Int) < ((41 - (d+1):Nat):Int))=false:=by simp only [decide_eq_false_iff_not];omega
  have hnode:=AB2 o n u ns ks al;simp only [exA,Ex.A4,AF,AN] at hnode
  have hw2:IntKind.i64.wrap (((41 - (d+1):Nat):Int)+1)=((41 - d:Nat):Int):=by
   have e:((41 - (d+1):Nat):Int)+1=((41 - d:Nat):Int):=by omega
   rw [e];exact D4 (by omega) (by omega)
  cases hn:R4 o n u ns ks.length al with
  |false=>
   rw [hn] at hnode;(repeat' ((first|refine wR ?_|refine AI.det (hnode _) ?_|fail)<;>try simp only [hj,hw,h6,h4,go_sem]));exact ⟨false,_,rfl,rfl,by rw [Yu,if_neg (by simp [hn])];rfl,fun r h=>by rw [Yu,if_neg (by simp [hn])] at h;cases h⟩
  |true=>
  rw [hn] at hnode;have hres:vEx (d+1) (q+1) (.mk o n u ns ks al)=(ks.foldlM (fK d) q).bind fun q=>al.foldlM (fA d) q:=by rw [Yu,if_pos hn]
  generalize hV:VXQ Oc j (d+1) (q+1) (.mk o n u ns ks al) Y=V
  have hno:∀z,vEx (d+1) (q+1) (.mk o n u ns ks al)=none->V (.d (.bool false)) (Y.AL j [.d (.int .i64 z)]):=fun z h=>by
   rw [<- hV];exact ⟨false,z,rfl,rfl,by rw [h];rfl,fun r hr=>by rw [h] at hr;cases hr⟩
  have hyes:∀r,vEx (d+1) (q+1) (.mk o n u ns ks al)=some r->V (.d (.bool true)) (Y.AL j [.d (.int .i64 (Oc r))]):=fun z h=>by
   rw [<- hV];exact ⟨true,_,rfl,rfl,by rw [h];rfl,fun r hr=>by rw [h] at hr;cases hr;rfl⟩
  clear hV;(repeat' ((first|refine wQ ?_|refine AI.det (hnode _) ?_|fail)<;>try simp only [hj,hw,h6,h4,AA,go_sem]));refine Run.cell 4 4 rfl rfl (fun hb4=>?_);refine Run.cell 4 5 rfl rfl (fun hb5=>?_);simp only [AV.Ev,AA] at hb4 hb5;refine Run.BB ?_
  refine Run.BE ((fun (a0:AV) (a2:AV) (a4:AV) (a33:AV) (a34:AV)=>fun (y:Nat×Nat)=>put 0 a0 (put 2 a2 (put 4 a4 (put 33 a33 (put 34 a34 (put 35 (.d (.int .i64 y.1)) U)))))) _ _ _ _ _) (fun _=>At 4 [.d (.int .i64 o),.d (.str n),.d (.int .i64 u),.d (.sl (ns.map BX)),.d (.sl (ks.map Ex.enc)),.d (.sl (al.map Al.enc))] E) (fun y=>Y.AL j [.d (.int .i64 (Oc y.2))])
   (fun y=>y.1<=ks.length/\y.2<=q/\(ks.take y.1).foldlM (fK d) q=some y.2) (fun y=>ks.length - y.1) ?_ (0,q) ⟨by simp,AS _,rfl⟩
  rintro ⟨i,p⟩ ⟨hi,hp,hok⟩ ih;simp only at hi hp hok;by_cases hlt:i < ks.length
  . obtain ⟨x,Z⟩:=Ai hlt;have he:=BI (enc:=Ex.enc) Z;have hw1:=wsu i;have hc:=ihd p (by omega) (by omega) x (Y.AL j [.d (.int .i64 (Oc p))]) (by simp only [AJ,if_true]);cases hv:vEx d p x with
    |some r=>
     have hr:=Yt _ _ _ _ hv;have hc:=VXQ.yes hc hv;have hs:=MC hok Z;obtain ⟨xo,xn,xu,xs,xk,xa⟩:=x;simp only [Ex.A4,exA,AF,AN] at he hc;(repeat' ((first|refine wQ ?_|(refine AI.mk rfl hc ?_;rintro _ _ ⟨rfl,rfl⟩)|fail)<;>try simp only [Ap hlt,he,hw1,hw2,go_sem]));exact ih (i+1,r) ⟨by simp only;omega,by simp only;omega,by simp only;rw [hs];exact hv⟩ (by simp only;omega)
    |none=>
     have hc:=VXQ.no hc hv;have hs:=MB hok Z hv;obtain ⟨xo,xn,xu,xs,xk,xa⟩:=x;simp only [Ex.A4,exA,AF,AN] at he hc;(repeat' ((first|refine wR ?_|(refine AI.mk rfl hc ?_;rintro _ _ ⟨rfl,z,rfl⟩)|fail)<;>try simp only [Ap hlt,he,hw2,go_sem]));exact hno z (by rw [hres,hs];rfl)
  . rw [AP (by omega)] at hok;rw [hok,E6] at hres;clear ih;(repeat' (refine wQ ?_<;>try simp only [B7 hlt,AA,go_sem]));refine Run.BB ?_
    refine Run.BE ((fun (a0:AV) (a2:AV) (a47:AV) (a48:AV)=>fun (y:Nat×Nat)=>put 0 a0 (put 2 a2 (put 47 a47 (put 48 a48 (put 49 (.d (.int .i64 y.1)) U))))) _ _ _ _) (fun _=>E) (fun y=>Y.AL j [.d (.int .i64 (Oc y.2))])
     (fun y=>y.1<=al.length/\y.2<=q/\(al.take y.1).foldlM (fA d) p=some y.2) (fun y=>al.length - y.1) ?_ (0,p) ⟨by simp,hp,rfl⟩
    rintro ⟨i,p⟩ ⟨hi,hp,hok⟩ ih;simp only at hi hp hok;by_cases hlt:i < al.length
    . obtain ⟨x,Z⟩:=Ai hlt;have he:=BI (enc:=Al.enc) Z;have hw1:=wsu i;obtain ⟨xc,xv,x⟩:=x;have hc:=ihd p (by omega) (by omega) x (Y.AL j [.d (.int .i64 (Oc p))]) (by simp only [AJ,if_true]);cases hv:vEx d p x with
      |some r=>
       have hr:=Yt _ _ _ _ hv;have hc:=VXQ.yes hc hv;have hs:=MC hok Z;obtain ⟨xo,xn,xu,xs,xk,xa⟩:=x;simp only [Al.A4,Ex.A4,exA,AF,AN] at he hc;(repeat' ((first|refine wQ ?_|(refine AI.mk rfl hc ?_;rintro _ _ ⟨rfl,rfl⟩)|fail)<;>try simp only [Ap hlt,he,hw1,hw2,go_sem]));exact ih (i+1,r) ⟨by simp only;omega,by simp only;omega,by simp only;rw [hs];exact hv⟩ (by simp only;omega)
      |none=>
       have hc:=VXQ.no hc hv;have hs:=MB hok Z hv;obtain ⟨xo,xn,xu,xs,xk,xa⟩:=x;simp only [Al.A4,Ex.A4,exA,AF,AN] at he hc;(repeat' ((first|refine wR ?_|(refine AI.mk rfl hc ?_;rintro _ _ ⟨rfl,z,rfl⟩)|fail)<;>try simp only [Ap hlt,he,hw2,go_sem]));exact hno z (by rw [hres,hs])
    . rw [AP (by omega)] at hok;(repeat' (refine wR ?_<;>try simp only [B7 hlt,go_sem]));exact hyes p (by rw [hres,hok])
def VV (u:Int) (Y:AH):AR Tzp 122 [.d (.int .i64 u)] Y (fun v σ'=>v= .d (.int .i64 (aZ u))/\σ'=Y):=by
 refine rL (by simp) ?_;rw [Bj];by_cases h:1<=u/\u<=7
 . obtain ⟨h1,h2⟩:=h;obtain rfl|rfl|rfl|rfl|rfl|rfl|rfl:u=1\/u=2\/u=3\/u=4\/u=5\/u=6\/u=7:=by omega
   all_goals (repeat' (first|(refine wP ?_<;>try simp only [Int.reduceLT,Int.reduceLE,QK,go_sem])|(refine ⟨fun h=>?_,fun h=>?_⟩<;>first|(cases h;done)|try simp only [h])|fail))
   all_goals rfl
 . have hp:aZ u=0:=by
    have:=yU u;omega
   rw [hp];by_cases h1:u < 1
   . (repeat' (refine wP ?_<;>try simp only [decide_eq_true h1,go_sem]));rfl
   . have h8:decide (((8:Nat):Int)<=u)=true:=by simp;omega
     (repeat' (refine wP ?_<;>try simp only [decide_eq_false h1,h8,go_sem]));rfl
def mB (o:Int) (n:Str) (u:Int) (ns:List Str) (nk na:Nat):Bool:=
 nmB o n&&nuB o u&&nsB o ns&&(if o=10 then decide (1<=na) else decide (na=0))&&nkB o u nk
def mA (o:Int) (n:Str) (u:Int) (ns:List Str) (nk:Nat) (al:List Al):R4 o n u ns nk al=(mB o n u ns nk al.length&&al.all eA):=by
 unfold R4 mB asB;split
 . cases nmB o n<;>cases nuB o u<;>cases nsB o ns<;>cases nkB o u nk<;>simp
 . cases al with
   |nil=>simp
   |cons a l=>simp
def U4 (l:List Str):PR l false=(decide (l.length<=6)&&l.all XS):=by
 unfold PR;congr 2;funext s;simp only [XS,Iv,BU];exact Bool.or_comm _ _
def XU (l:List Str):PR l true=(decide (l.length<=6)&&l.all FQ):=by
 unfold PR;congr 2;funext s;simp
def Hd (r:Nat):Int:=(r:Int)
def ASE (j d q:Nat) (ihd:∀(q:Nat),q<=600->∀(e:Ex) (Y:AH),Y.blk j=some [.d (.int .i64 (Hd q))]->AR Tzp 85 [exA e,.d (.int .i64 (d:Int)),.gp j 0] Y (VXQ Hd j d q e Y)) (hd:d < 40) (hq:q<=600)
 (o:Int) (n:Str) (u:Int) (ns:List Str) (ks:List Ex) (al:List Al) (Y:AH) (hnode:mB o n u ns ks.length al.length=true):
 Run IS (VXQ Hd j (d+1) (q+1) (.mk o n u ns ks al) Y) [.code (.loop Kg),.blk 1,.code (.seq (.seq (.reg [⟨some 14,.mv (.c (.d (.int .i64 0))),none⟩] [1,2,3,14]) (.block 3 (.loop RL))) (.seq (.reg [⟨some 6,.mv (.c (.d (.bool true))),none⟩] [6]) .ret))]
  (put 1 (.d (.int .i64 ((d+1:Nat):Int))) (put 2 (.gp j 0) (put 3 (.lp 3 0) (put 13 (.d (.int .i64 0)) U)))) (At 3 [.d (.int .i64 o),.d (.str n),.d (.int .i64 u),.d (.sl (ns.map BX)),.d (.sl (ks.map Ex.enc)),.d (.sl (al.map Al.enc))] E) (Y.AL j [.d (.int .i64 (Hd q))]):=by
 have hws:IntKind.i64.wrap (((d+1:Nat):Int) - 1)=(d:Int):=M1 (by omega);have hres:vEx (d+1) (q+1) (.mk o n u ns ks al)=if al.all eA then (ks.foldlM (fK d) q).bind fun q=>al.foldlM (fA d) q else none:=by rw [Yu,mA,hnode,Bk]
 generalize hV:VXQ Hd j (d+1) (q+1) (.mk o n u ns ks al) Y=V
 have hno:∀z,vEx (d+1) (q+1) (.mk o n u ns ks al)=none->V (.d (.bool false)) (Y.AL j [.d (.int .i64 z)]):=fun z h=>by
  rw [<- hV];exact ⟨false,z,rfl,rfl,by rw [h];rfl,fun r hr=>by rw [h] at hr;cases hr⟩
 have hyes:∀r,vEx (d+1) (q+1) (.mk o n u ns ks al)=some r->V (.d (.bool true)) (Y.AL j [.d (.int .i64 (Hd r))]):=fun z h=>by
  rw [<- hV];exact ⟨true,_,rfl,rfl,by rw [h];rfl,fun r hr=>by rw [h] at hr;cases hr;rfl⟩
 clear hV;refine Run.cell 3 4 rfl rfl (fun hb4=>?_);refine Run.cell 3 5 rfl rfl (fun hb5=>?_);simp only [AV.Ev,AA] at hb4 hb5;refine Run.BB ?_
 refine Run.BE ((fun (a1:AV) (a2:AV) (a3:AV)=>fun (y:Nat×Nat)=>put 1 a1 (put 2 a2 (put 3 a3 (put 13 (.d (.int .i64 y.1)) U)))) _ _ _) (fun _=>At 3 [.d (.int .i64 o),.d (.str n),.d (.int .i64 u),.d (.sl (ns.map BX)),.d (.sl (ks.map Ex.enc)),.d (.sl (al.map Al.enc))] E) (fun y=>Y.AL j [.d (.int .i64 (Hd y.2))])
  (fun y=>y.1<=ks.length/\y.2<=q/\(ks.take y.1).foldlM (fK d) q=some y.2) (fun y=>ks.length - y.1) ?_ (0,q) ⟨by simp,AS _,rfl⟩
 rintro ⟨i,p⟩ ⟨hi,hp,hok⟩ ih;simp only at hi hp hok;by_cases hlt:i < ks.length
 . obtain ⟨x,Z⟩:=Ai hlt;have he:=BI (enc:=Ex.enc) Z;have hw1:=wsu i;have hc:=ihd p (by omega) x (Y.AL j [.d (.int .i64 (Hd p))]) (by simp only [AJ,if_true]);cases hv:vEx d p x with
   |some r=>
    have hr:=Yt _ _ _ _ hv;have hc:=VXQ.yes hc hv;have hs:=MC hok Z;obtain ⟨xo,xn,xu,xs,xk,xa⟩:=x;simp only [Ex.A4,exA,AF,AN] at he hc;(repeat' ((first|refine wQ ?_|(refine AI.mk rfl hc ?_;rintro _ _ ⟨rfl,rfl⟩)|fail)<;>try simp only [Ap hlt,he,hw1,hws,AA,go_sem]));exact ih (i+1,r) ⟨by simp only;omega,by simp only;omega,by simp only;rw [hs];exact hv⟩ (by simp only;omega)
   |none=>
    have hc:=VXQ.no hc hv;have hs:=MB hok Z hv;obtain ⟨xo,xn,xu,xs,xk,xa⟩:=x;simp only [Ex.A4,exA,AF,AN] at he hc;(repeat' ((first|refine wR ?_|(refine AI.mk rfl hc ?_;rintro _ _ ⟨rfl,z,rfl⟩)|fail)<;>try simp only [Ap hlt,he,hws,AA,go_sem]));refine hno z ?_;rw [hres,hs];split<;>rfl
 . rw [AP (by omega)] at hok;rw [hok,E6] at hres;clear ih;(repeat' (refine wQ ?_<;>try simp only [B7 hlt,AA,go_sem]));refine Run.BB ?_
   refine Run.BE ((fun (a1:AV) (a2:AV) (a3:AV)=>fun (y:Nat×Nat)=>put 1 a1 (put 2 a2 (put 3 a3 (put 14 (.d (.int .i64 y.1)) U)))) _ _ _) (fun _=>At 3 [.d (.int .i64 o),.d (.str n),.d (.int .i64 u),.d (.sl (ns.map BX)),.d (.sl (ks.map Ex.enc)),.d (.sl (al.map Al.enc))] E) (fun y=>Y.AL j [.d (.int .i64 (Hd y.2))])
    (fun y=>y.1<=al.length/\y.2<=q/\(al.take y.1).all eA=true/\(al.take y.1).foldlM (fA d) p=some y.2) (fun y=>al.length - y.1) ?_ (0,p) ⟨by simp,hp,by simp,rfl⟩
   rintro ⟨i,p⟩ ⟨hi,hp,hab,hok⟩ ih;simp only at hi hp hab hok;by_cases hlt:i < al.length
   . obtain ⟨x,Z⟩:=Ai hlt;have he:=BI (enc:=Al.enc) Z;have hw1:=wsu i;cases halt:eA x with
     |false=>
      have hna:al.all eA=false:=pS Z halt;rw [hna] at hres;have hnz:=hno (Hd p) (by rw [hres];rfl);obtain ⟨xc,xv,xo,xn,xu,xs,xk,xa⟩:=x;simp only [Al.A4] at he;cases hup:HA xc with
      |false=>
       have h1:=Dq xc 2 (Y.AL j [.d (.int .i64 (Hd p))]);rw [show J4 2 xc=HA xc from rfl,hup] at h1;(repeat' ((first|refine wR ?_|refine AI.det (h1) ?_|fail)<;>try simp only [Ap hlt,he,AA,go_sem]));exact hnz
      |true=>
       have h1:=Dq xc 2 (Y.AL j [.d (.int .i64 (Hd p))]);rw [show J4 2 xc=HA xc from rfl,hup] at h1;have h2:=KJ xv false (Y.AL j [.d (.int .i64 (Hd p))])
       have hb:PR xv false=false:=by
        rw [U4];simp only [eA,hup,Bk] at halt;exact halt
       rw [hb] at h2;(repeat' ((first|refine wR ?_|refine AI.det (h1) ?_|refine AI.det (h2) ?_|fail)<;>try simp only [Ap hlt,he,AA,go_sem]));exact hnz
     |true=>
      have hab2:=Ml hab Z halt;obtain ⟨xc,xv,x⟩:=x;have hup:HA xc=true:=by simp only [eA,AO] at halt;exact halt.1.1
      have hbn:PR xv false=true:=by rw [U4];simp only [eA,AO] at halt ⊢;exact ⟨halt.1.2,halt.2⟩
      have h1:=Dq xc 2 (Y.AL j [.d (.int .i64 (Hd p))]);rw [show J4 2 xc=HA xc from rfl,hup] at h1;have h2:=KJ xv false (Y.AL j [.d (.int .i64 (Hd p))]);rw [hbn] at h2;have hc:=ihd p (by omega) x (Y.AL j [.d (.int .i64 (Hd p))]) (by simp only [AJ,if_true]);cases hv:vEx d p x with
      |some r=>
       have hr:=Yt _ _ _ _ hv;have hc:=VXQ.yes hc hv;have hs:=MC hok Z;obtain ⟨xo,xn,xu,xs,xk,xa⟩:=x;simp only [Al.A4,Ex.A4,exA,AF,AN] at he hc;(repeat' ((first|refine wQ ?_|(refine AI.mk rfl hc ?_;rintro _ _ ⟨rfl,rfl⟩)|refine AI.det (h1) ?_|refine AI.det (h2) ?_|fail)<;>try simp only [Ap hlt,he,hw1,hws,AA,go_sem]));exact ih (i+1,r) ⟨by simp only;omega,by simp only;omega,hab2,by simp only;rw [hs];exact hv⟩ (by simp only;omega)
      |none=>
       have hc:=VXQ.no hc hv;have hs:=MB hok Z hv;obtain ⟨xo,xn,xu,xs,xk,xa⟩:=x;simp only [Al.A4,Ex.A4,exA,AF,AN] at he hc;(repeat' ((first|refine wR ?_|(refine AI.mk rfl hc ?_;rintro _ _ ⟨rfl,z,rfl⟩)|refine AI.det (h1) ?_|refine AI.det (h2) ?_|fail)<;>try simp only [Ap hlt,he,hws,AA,go_sem]));refine hno z ?_;rw [hres,hs];split<;>rfl
   . rw [AP (by omega)] at hok hab;(repeat' (refine wR ?_<;>try simp only [B7 hlt,AA,go_sem]));exact hyes p (by rw [hres,hab,if_pos rfl,hok])
def ALX (nm nu nn na:Bool) (lo hi:Nat) (n:Str) (u:Int) (a k b:Nat):Bool:=
 (nm||n==[])&&(nu||u==0)&&(nn||decide (a=0))&&(na||decide (b=0))&&decide (lo<=k)&&decide (k<=hi)
def ASD (o:Int) (n:Str) (u:Int) (ns:List Str) (ks:List Ex) (al:List Al) (d j:Nat) (Y:AH) (nm nu nn na:Bool) (lo hi:Nat):
 B6 Tzp (Cut [1,2,3,201] (put 1 (.d (.int .i64 ((d+1:Nat):Int))) (put 2 (.gp j 0) (put 3 (.lp 3 0) (put 201 (.d (.bool (!ALX nm nu nn na lo hi n u ns.length ks.length al.length))) U)))) (At 3 [.d (.int .i64 o),.d (.str n),.d (.int .i64 u),.d (.sl (ns.map BX)),.d (.sl (ks.map Ex.enc)),.d (.sl (al.map Al.enc))] E) Y)
  [⟨some 152,.mv (.t 7),none⟩,⟨some 153,.un .not (.t 152),none⟩,⟨some 154,.mv (.t 153),none⟩,⟨some 155,.fld (.t 3) 1,some (154,true)⟩,⟨some 156,.ldl (.t 155) none,some (154,true)⟩,⟨some 157,.bin .neq (.t 156) (.c (.d (.str []))),some (154,true)⟩,⟨some 158,.pick (.t 154) (.t 157) (.c (.d (.bool false))),none⟩,⟨some 159,.mv (.t 158),none⟩,⟨some 160,.mv (.t 8),some (159,false)⟩,⟨some 161,.un .not (.t 160),some (159,false)⟩,⟨some 162,.mv (.t 161),some (159,false)⟩,⟨some 163,.fld (.t 3) 2,some (162,true)⟩,⟨some 164,.ldl (.t 163) none,some (162,true)⟩,⟨some 165,.bin .neq (.t 164) (.c (.d (.int .i64 0))),some (162,true)⟩,⟨some 166,.pick (.t 162) (.t 165) (.c (.d (.bool false))),some (159,false)⟩,⟨some 167,.pick (.t 159) (.c (.d (.bool true))) (.t 166),none⟩,⟨some 168,.mv (.t 167),none⟩,⟨some 169,.mv (.t 9),some (168,false)⟩,⟨some 170,.un .not (.t 169),some (168,false)⟩,⟨some 171,.mv (.t 170),some (168,false)⟩,⟨some 172,.fld (.t 3) 3,some (171,true)⟩,⟨some 173,.ldl (.t 172) none,some (171,true)⟩,⟨some 174,.len (.t 173),some (171,true)⟩,⟨some 175,.bin .gtr (.t 174) (.c (.d (.int .i64 0))),some (171,true)⟩,⟨some 176,.pick (.t 171) (.t 175) (.c (.d (.bool false))),some (168,false)⟩,⟨some 177,.pick (.t 168) (.c (.d (.bool true))) (.t 176),none⟩,⟨some 178,.mv (.t 177),none⟩,⟨some 179,.mv (.t 10),some (178,false)⟩,⟨some 180,.un .not (.t 179),some (178,false)⟩,⟨some 181,.mv (.t 180),some (178,false)⟩,⟨some 182,.fld (.t 3) 5,some (181,true)⟩,⟨some 183,.ldl (.t 182) none,some (181,true)⟩,⟨some 184,.len (.t 183),some (181,true)⟩,⟨some 185,.bin .gtr (.t 184) (.c (.d (.int .i64 0))),some (181,true)⟩,⟨some 186,.pick (.t 181) (.t 185) (.c (.d (.bool false))),some (178,false)⟩,⟨some 187,.pick (.t 178) (.c (.d (.bool true))) (.t 186),none⟩,⟨some 188,.mv (.t 187),none⟩,⟨some 189,.fld (.t 3) 4,some (188,false)⟩,⟨some 190,.ldl (.t 189) none,some (188,false)⟩,⟨some 191,.len (.t 190),some (188,false)⟩,⟨some 192,.mv (.t 11),some (188,false)⟩,⟨some 193,.bin .lss (.t 191) (.t 192),some (188,false)⟩,⟨some 194,.pick (.t 188) (.c (.d (.bool true))) (.t 193),none⟩,⟨some 195,.mv (.t 194),none⟩,⟨some 196,.fld (.t 3) 4,some (195,false)⟩,⟨some 197,.ldl (.t 196) none,some (195,false)⟩,⟨some 198,.len (.t 197),some (195,false)⟩,⟨some 199,.mv (.t 12),some (195,false)⟩,⟨some 200,.bin .gtr (.t 198) (.t 199),some (195,false)⟩,⟨some 201,.pick (.t 195) (.c (.d (.bool true))) (.t 200),none⟩]
  (put 1 (.d (.int .i64 ((d+1:Nat):Int))) (put 2 (.gp j 0) (put 3 (.lp 3 0) (put 7 (.d (.bool nm)) (put 8 (.d (.bool nu)) (put 9 (.d (.bool nn)) (put 10 (.d (.bool na)) (put 11 (.d (.int .i64 (lo:Nat))) (put 12 (.d (.int .i64 (hi:Nat))) U))))))))) (At 3 [.d (.int .i64 o),.d (.str n),.d (.int .i64 u),.d (.sl (ns.map BX)),.d (.sl (ks.map Ex.enc)),.d (.sl (al.map Al.enc))] E) Y:=by
 have fin:∀(b c:Bool),(b=true↔c=true)->∀(a1 a2 a3:AV),(put 1 a1 (put 2 a2 (put 3 a3 (put 201 (.d (.bool b)) U))))=put 1 a1 (put 2 a2 (put 3 a3 (put 201 (.d (.bool c)) U))):=fun b c h a1 a2 a3=>by rw [Ak.2 h]
 simp only [go_sem];(repeat' (first|refine ctQ rfl ?_|(refine QJ (by first|exact GV.t|exact GV.f|exact GV.st|exact GV.sf) ⟨?_,fun h=>?_,?_⟩;rotate_left;(focus ((try simp only [AO] at h);simp only [go_sem];first|exact Is.mk|exact Is.pv (by simp only [h,UM,↓LA,AA,F1,gtN,go_sem];rfl)));(try simp only [gT,↓LA,↓WB,go_sem]))|((first|refine rgQ mxQ ?_|refine cdQ ?_)<;>try simp only [gT,ABL,ABM,↓LA,↓WB,↓kR,AA,F1,gtN,ltN,go_sem])|fail));refine fin _ _ ?_ _ _ _;simp only [ALX];simp [bne]
 grind
def oI (j:Nat):∀(d q:Nat),d<=40->q<=600->∀(e:Ex) (Y:AH),Y.blk j=some [.d (.int .i64 (Hd q))]->
 AR Tzp 85 [exA e,.d (.int .i64 (d:Int)),.gp j 0] Y (VXQ Hd j d q e Y):=by
 intro d
 induction d with
 |zero=>
  intro q _ hq e Y hj;obtain ⟨o,n,u,ns,ks,al⟩:=e;refine Xv (by simp) ?_;rw [DK,exA,Ex.A4];have h0:(((0:Nat):Int)==0)=true:=by decide
  (repeat' (refine wR ?_<;>try simp only [h0,go_sem]));exact ⟨false,Hd q,rfl,(FU hj).symm,rfl,fun r h=>by cases h⟩
 |succ d ihd=>
  intro q hd hq e Y hj;obtain ⟨o,n,u,ns,ks,al⟩:=e;refine Xv (by simp) ?_;rw [DK,exA,Ex.A4];have h0:(((d+1:Nat):Int)==0)=false:=by simp only [beq_eq_false_iff_ne,ne_eq];omega
  cases q with
  |zero=>
   have hz:(Hd 0==0)=true:=by decide
   (repeat' (refine wR ?_<;>try simp only [h0,hj,hz,go_sem]));exact ⟨false,Hd 0,rfl,(FU hj).symm,rfl,fun r h=>by cases h⟩
  |succ q=>
  have hz:(Hd (q+1)==0)=false:=by simp only [Hd,beq_eq_false_iff_ne,ne_eq];omega
  have hwq:IntKind.i64.wrap (Hd (q+1) - 1)=Hd q:=M1 (by omega);have hL:=fun h=>ASE j d q (fun q hq e Y h=>ihd q (by omega) hq e Y h) (by omega) (by omega) o n u ns ks al Y h;have hbt:=KJ ns true (Y.AL j [.d (.int .i64 (Hd q))]);have hbf:=KJ ns false (Y.AL j [.d (.int .i64 (Hd q))])
  have hfail:mB o n u ns ks.length al.length=false->VXQ Hd j (d+1) (q+1) (.mk o n u ns ks al) Y (.d (.bool false)) (Y.AL j [.d (.int .i64 (Hd q))]):=fun h=>
   have hr:vEx (d+1) (q+1) (.mk o n u ns ks al)=none:=by rw [Yu,mA,h];rfl
   ⟨false,_,rfl,rfl,by rw [hr];rfl,fun r h=>by rw [hr] at h;cases h⟩
  generalize hV:VXQ Hd j (d+1) (q+1) (.mk o n u ns ks al) Y=V at hL hfail;clear ihd hV;(repeat' (first|refine Run.cb rfl ?_|((first|refine rgQ mxQ ?_|refine cdQ ?_)<;>try simp only [h0,hj,hz,hwq,go_sem])|fail));refine Run.AH7 (α:=Bool×Bool×Bool×Bool×Nat×Nat) [1,2,3,7,8,9,10,11,12] (fun a=>put 1 (.d (.int .i64 ((d+1:Nat):Int))) (put 2 (.gp j 0) (put 3 (.lp 3 0) (put 7 (.d (.bool a.1)) (put 8 (.d (.bool a.2.1)) (put 9 (.d (.bool a.2.2.1)) (put 10 (.d (.bool a.2.2.2.1)) (put 11 (.d (.int .i64 (a.2.2.2.2.1:Nat))) (put 12 (.d (.int .i64 (a.2.2.2.2.2:Nat))) U))))))))) (At 3 [.d (.int .i64 o),.d (.str n),.d (.int .i64 u),.d (.sl (ns.map BX)),.d (.sl (ks.map Ex.enc)),.d (.sl (al.map Al.enc))] E) (Y.AL j [.d (.int .i64 (Hd q))]) (fun a=>mB o n u ns ks.length al.length=ALX a.1 a.2.1 a.2.2.1 a.2.2.2.1 a.2.2.2.2.1 a.2.2.2.2.2 n u ns.length ks.length al.length) ?_ ?_
  . rintro ⟨nm,nu,nn,na,lo,hi⟩ hI;simp only at hI ⊢;(repeat (first
    |refine Run.seq ?_
    |refine Run.skip ?_
    |refine Run.block ?_
    |refine Run.blk ?_
    |refine Run.scope ?_
    |refine Run.scp ?_
    |(refine Run.exit rfl ?_)))
    refine Run.AZF mixed (put 1 (.d (.int .i64 ((d+1:Nat):Int))) (put 2 (.gp j 0) (put 3 (.lp 3 0) (put 201 (.d (.bool (!ALX nm nu nn na lo hi n u ns.length ks.length al.length))) U)))) (At 3 [.d (.int .i64 o),.d (.str n),.d (.int .i64 u),.d (.sl (ns.map BX)),.d (.sl (ks.map Ex.enc)),.d (.sl (al.map Al.enc))] E) (Y.AL j [.d (.int .i64 (Hd q))]) ?_ ?_
    . exact ASD o n u ns ks al d j _ nm nu nn na lo hi
    . cases hc:ALX nm nu nn na lo hi n u ns.length ks.length al.length with
      |true=>
       (repeat' (first|((first|refine wQ ?_|(refine Ae rfl (fun h=>?_) (fun h=>?_)<;>try (cases h;done))|fail)<;>try simp only [go_sem])|(refine ⟨fun h=>?_,fun h=>?_⟩<;>first|(cases h;done)|try simp only [h])|fail));exact hL (hI.trans hc)
      |false=>
       (repeat' (first|((first|refine wR ?_|(refine Ae rfl (fun h=>?_) (fun h=>?_)<;>try (cases h;done))|fail)<;>try simp only [go_sem])|(refine ⟨fun h=>?_,fun h=>?_⟩<;>first|(cases h;done)|try simp only [h])|fail));exact hfail (hI.trans hc)
  . intro hrest;clear hL;have key:=fun (F':Fm) (L':Lm) (nm nu nn na:Bool) (lo hi:Nat) h1 h2 h3=>hrest F' L' (nm,nu,nn,na,lo,hi) h1 h2 h3;simp only at key;clear hrest;have fin:∀b c:Bool,(b=true↔c=true)->b=c:=fun b c h=>Ak.2 h;by_cases ho:o=1\/o=2\/o=3\/o=4\/o=5\/o=6\/o=7\/o=8\/o=9\/o=10\/o=11\/o=12\/o=13\/o=14\/o=15\/o=16\/o=17
    . rcases ho with rfl|rfl|rfl|rfl|rfl|rfl|rfl|rfl|rfl|rfl|rfl|rfl|rfl|rfl|rfl|rfl|rfl
      all_goals (repeat' (first|(refine key _ _ ?_ ?_ ?_ ?_ ?_ ?_ ?_ ?_ ?_;rotate_left 6;(focus (simp only [go_sem];rfl));(focus (simp only [go_sem])))|refine ctQ rfl ?_|(refine QJ (by first|exact GV.t|exact GV.f|exact GV.st|exact GV.sf) ⟨?_,fun h=>?_,?_⟩;rotate_left;(focus ((try simp only [AO,N6] at h);simp only [go_sem];first|exact Is.mk|exact Is.pv (by simp only [h,UM,go_sem];rfl)|(refine AI.det (Dq _ _ _) ?_;exact Is.mk)|(refine AI.det (VV _ _) ?_;exact Is.mk)|(refine AI.det (hbt) ?_;exact Is.mk)|(refine AI.det (hbf) ?_;exact Is.mk)|(refine AI.AG1 (by simp only [h,UM];rfl) ?_;first|(refine AI.det (Dq _ _ _) ?_;exact Is.mk)|(refine AI.det (VV _ _) ?_;exact Is.mk)|(refine AI.det (hbt) ?_;exact Is.mk)|(refine AI.det (hbf) ?_;exact Is.mk))));(try simp only [↓LA,↓WB,go_sem]))|((first|refine rgQ mxQ ?_|refine cdQ ?_|refine Run.qR Xm ?_|refine AI.det (Dq _ _ _) ?_|refine AI.det (VV _ _) ?_|refine AI.det (hbt) ?_|refine AI.det (hbf) ?_)<;>try simp only [Aa,AA,CA,go_sem])|(refine ⟨fun h=>?_,fun h=>?_⟩<;>first|(cases h;done)|try simp only [h])|fail))
      all_goals clear key
      all_goals (try refine hfail ?_)
      all_goals clear hfail hbt hbf hj hz hwq h0
      all_goals (refine fin _ _ ?_;simp [mB,ALX,nmB,nuB,nsB,nkB,FQ,HA,XS,XU,U4, *] at *;try grind)
    . have hn:mB o n u ns ks.length al.length=false:=by
       simp only [not_or] at ho;simp [mB,nkB,ho]
      simp only [not_or] at ho;obtain ⟨h1,h2,h3,h4,h5,h6,h7,h8,h9,h10,h11,h12,h13,h14,h15,h16,h17⟩:=ho;(repeat' (refine wR ?_<;>try simp only [Cf h1,Cf h2,Cf h3,Cf h4,Cf h5,Cf h6,Cf h7,Cf h8,Cf h9,Cf h10,Cf h11,Cf h12,Cf h13,Cf h14,Cf h15,Cf h16,Cf h17,go_sem]));exact hfail hn
def ZQ (c:CE):Prop:=∀t∈c.args,t.size<=1000000
def J5 (d:DE):Prop:=∀c∈d.cons,ZQ c
def AX2 {b c:Bool} (h:b=true↔c=true):AV.d (.bool b)=AV.d (.bool c):=by rw [Ak.2 h]
def lM (t:TE) (Y:AH) (h:t.size<=1000000):AR Tzp 181 [teA t] Y (fun v σ'=>v= .d (.bool (DS 40 t))/\σ'=Y):=by
 refine VB (by simp) ?_;rw [Bj];have hc:=aG 40 (AS _) t Y h;rw [show ((41 - 40:Nat):Int)=1 from rfl] at hc;obtain ⟨k,n,l⟩:=t;simp only [TE.A4,teA,AF,AN] at hc ⊢;(repeat' ((first|refine wP ?_|refine AI.det (hc) ?_|fail)<;>try simp only [go_sem]))
def uJ (c:CE) (Y:AH) (h:ZQ c):AR Tzp 179 [ceA c] Y (fun v σ'=>v= .d (.bool (nJ c))/\σ'=Y):=by
 refine YD (by simp) ?_;rw [Bj];have ha:=OH (fid:=181) (caps:=[]) (by kernel_rfl) rfl (DS 40) c.args Y (fun t ht σ1 _=>lM t σ1 (h t ht));obtain ⟨nm,ar⟩:=c;simp only [CE.enc,ceA,AF,AN] at ha ⊢;have h6:decide ((ar.length:Int)<=6)=decide (ar.length<=6):=leN _ 6;(repeat' (first|refine ctQ rfl ?_|(refine QJ (by first|exact GV.t|exact GV.f|exact GV.st|exact GV.sf) ⟨?_,fun h=>?_,?_⟩;rotate_left;(focus ((try simp only [AO] at h);simp only [go_sem];first|exact Is.mk|exact Is.pv (by simp only [h,UM,AA,h6,go_sem];rfl)|(refine AI.det (CM nm _) ?_;exact Is.mk)|(refine AI.det (ha) ?_;exact Is.mk)|(refine AI.AG1 (by simp only [h];rfl) ?_;first|(refine AI.det (CM nm _) ?_;exact Is.mk)|(refine AI.det (ha) ?_;exact Is.mk))));(try simp only [↓LA,go_sem]))|((first|refine rgQ mxQ ?_|refine cdQ ?_|refine Run.qP NA ?_|refine AI.det (CM nm _) ?_|refine AI.det (ha) ?_)<;>try simp only [go_sem])|fail));simp only [nJ]
def AB0 (d:DE) (Y:AH) (h:J5 d):AR Tzp 123 [deA d] Y (fun v σ'=>v= .d (.bool (OK d))/\σ'=Y):=by
 refine cS (by simp) ?_;rw [Bj];have ha:=Iw (fid:=124) (caps:=[]) (by kernel_rfl) rfl FQ d.vars Y (fun x _ σ1 _=>EP x σ1);have hc:=bK (fid:=179) (caps:=[]) (by kernel_rfl) rfl nJ d.cons Y (fun c hc σ1 _=>uJ c σ1 (h c hc));obtain ⟨nm,vs,cs⟩:=d;simp only [DE.enc,deA,AF,AN] at ha hc ⊢;have h6:decide ((6:Int) < (vs.length:Int))=!decide (vs.length<=6):=gtN _ 6;have h8:decide ((8:Int) < (cs.length:Int))=!decide (cs.length<=8):=gtN _ 8;have h1:decide ((cs.length:Int) < 1)=decide (cs.length < 1):=ltN _ 1
 (repeat' (first|refine ctQ rfl ?_|(refine QJ (by first|exact GV.t|exact GV.f|exact GV.st|exact GV.sf) ⟨?_,fun h=>?_,?_⟩;rotate_left;(focus ((try simp only [N6] at h);simp only [go_sem];first|exact Is.mk|exact Is.pv (by simp only [h,UM,AA,h6,h8,go_sem];rfl)|(refine AI.det (CM nm _) ?_;exact Is.mk)|(refine AI.det (ha) ?_;exact Is.mk)|(refine AI.det (hc) ?_;exact Is.mk)|(refine AI.AG1 (by simp only [h,UM];rfl) ?_;first|(refine AI.det (CM nm _) ?_;exact Is.mk)|(refine AI.det (ha) ?_;exact Is.mk)|(refine AI.det (hc) ?_;exact Is.mk))));(try simp only [↓WB,↓kR,go_sem]))|((first|refine rgQ mxQ ?_|refine cdQ ?_|refine Run.qP P9 ?_|refine AI.det (CM nm _) ?_|refine AI.det (ha) ?_|refine AI.det (hc) ?_)<;>try simp only [AA,h1,go_sem])|(refine ⟨fun h=>?_,fun h=>?_⟩<;>first|(cases h;done)|try simp only [h])|fail))
 all_goals (refine AX2 ?_;simp [OK] at *;try grind)
def oZ (p:Pg) (Y:AH) (h:∀d∈p.data,J5 d):AR Tzp 88 [pgA p] Y (fun v σ'=>v= .d (.bool (Eb p))/\σ'=Y):=by
 obtain ⟨ds,fs⟩:=p;refine rO (by simp) ?_;rw [Bj,pgA];simp only [Pg.enc,AF,AN] at h ⊢;have h12:decide ((12:Int) < (ds.length:Int))=!decide (ds.length<=12):=gtN _ 12;have h24:decide ((24:Int) < (fs.length:Int))=!decide (fs.length<=24):=gtN _ 24;by_cases hd:ds.length<=12
 case neg=>
  (repeat' (refine wP ?_<;>try simp only [AA,h12,decide_eq_false hd,go_sem]));simp [Eb,hd]
 by_cases hf:fs.length<=24
 case neg=>
  (repeat' (refine wP ?_<;>try simp only [AA,h12,decide_eq_true hd,h24,decide_eq_false hf,go_sem]));simp [Eb,hf]
 have hres:Eb ⟨ds,fs⟩=(ds.all OK&&(fs.foldlM Vc 600).isSome):=by simp [Eb,hd,hf]
 (repeat' (refine wQ ?_<;>try simp only [AA,h12,decide_eq_true hd,h24,decide_eq_true hf,go_sem]));refine Run.BB ?_;refine Run.BE ((fun (a1:AV) (a19:AV) (a20:AV)=>fun (i:Nat)=>put 1 a1 (put 19 a19 (put 20 a20 (put 21 (.d (.int .i64 i)) U)))) _ _ _) (fun _=>At 1 [.d (.sl (ds.map DE.enc)),.d (.sl (fs.map FE.enc))] E) (fun _=>Y) (fun i=>i<=ds.length/\(ds.take i).all OK=true) (fun i=>ds.length - i) ?_ 0 ⟨by simp,by simp⟩;rintro i ⟨hi,hok⟩ ih;by_cases hlt:i < ds.length
 . obtain ⟨x,Z⟩:=Ai hlt;have he:=BI (enc:=DE.enc) Z;have hw1:=wsu i;have hc:=AB0 x Y (h x (AD Z));cases hp:OK x with
   |true=>
    have hs:=Ml hok Z hp;rw [hp] at hc;obtain ⟨nm,vs,cs⟩:=x;simp only [DE.enc,deA,AF,AN] at he hc;(repeat' ((first|refine wQ ?_|refine AI.det (hc) ?_|fail)<;>try simp only [Ap hlt,he,hw1,go_sem]));exact ih (i+1) ⟨by omega,hs⟩ (by omega)
   |false=>
    have hs:=pS (p:=OK) Z hp;rw [hp] at hc;obtain ⟨nm,vs,cs⟩:=x;simp only [DE.enc,deA,AF,AN] at he hc;(repeat' ((first|refine wP ?_|refine AI.det (hc) ?_|fail)<;>try simp only [Ap hlt,he,go_sem]));rw [hres,hs];rfl
 . rw [AP (by omega)] at hok;rw [hok,Bk] at hres;clear ih;(repeat' (first|refine ctQ rfl ?_|((first|refine rgQ mxQ ?_|refine cdQ ?_)<;>try simp only [B7 hlt,go_sem])|fail));intro j hj;have hle:=CK (cs:=[AV.d (.int .i64 0)]) hj;(repeat' (first|refine ctQ rfl ?_|((first|refine rgQ mxQ ?_|refine cdQ ?_)<;>try simp only [AA,go_sem])|fail));refine Run.BB ?_
   refine Run.BE ((fun (a5:AV) (a32:AV) (a33:AV)=>fun (y:Nat×Nat)=>put 5 a5 (put 32 a32 (put 33 a33 (put 34 (.d (.int .i64 y.1)) U)))) _ _ _) (fun _=>E) (fun y=>Y.AL j [.d (.int .i64 (Oc y.2))])
    (fun y=>y.1<=fs.length/\y.2<=600/\(fs.take y.1).foldlM Vc 600=some y.2) (fun y=>fs.length - y.1) ?_ (0,600) ⟨by simp,by simp,rfl⟩
   rintro ⟨i,q⟩ ⟨hi,hq,hok⟩ ih;simp only at hi hq hok;by_cases hlt:i < fs.length
   . obtain ⟨x,Z⟩:=Ai hlt;have he:=BI (enc:=FE.enc) Z;have hw1:=wsu i;have hnm:=EP x.name (Y.AL j [.d (.int .i64 (Oc q))]);have hps:=Iw (fid:=124) (caps:=[]) (by kernel_rfl) rfl FQ x.params (Y.AL j [.d (.int .i64 (Oc q))]) (fun x _ σ1 _=>EP x σ1);have h6:decide ((6:Int) < (x.params.length:Int))=!decide (x.params.length<=6):=gtN _ 6;have hc:=nK j 40 q (AS _) hq x.body (Y.AL j [.d (.int .i64 (Oc q))]) (by simp only [AJ,if_true]);rw [show ((41 - 40:Nat):Int)=1 from rfl] at hc;have hno:Vc q x=none->fs.foldlM Vc 600=none:=fun h=>MB hok Z h;have hyes:∀r,Vc q x=some r->(fs.take (i+1)).foldlM Vc 600=some r:=fun r h=>by rw [MC hok Z,h]
     have hvf:Vc q x=if FQ x.name&&decide (x.params.length<=6)&&x.params.all FQ then vEx 40 q x.body else none:=rfl
     cases h1:FQ x.name with
     |false=>
      rw [h1] at hnm hvf;obtain ⟨nm,ps,o,n,u,ns,ks,al⟩:=x;simp only [FE.enc,Ex.A4] at he hnm;(repeat' (first|refine ctQ rfl ?_|((first|refine rgQ mxQ ?_|refine cdQ ?_|(refine Run.Bg Gq (σ2:=Y) (CK hj) ?_)|refine AI.det (hnm) ?_)<;>try simp only [Ap hlt,he,go_sem])|fail));rw [hres,hno hvf];rfl
     |true=>
     by_cases h2:x.params.length<=6
     case neg=>
      rw [decide_eq_false h2] at h6;rw [h1,decide_eq_false h2] at hvf;rw [h1] at hnm;obtain ⟨nm,ps,o,n,u,ns,ks,al⟩:=x;simp only [FE.enc,Ex.A4] at he hnm h6;(repeat' (first|refine ctQ rfl ?_|((first|refine rgQ mxQ ?_|refine cdQ ?_|(refine Run.Bg Gq (σ2:=Y) (CK hj) ?_)|refine AI.det (hnm) ?_)<;>try simp only [Ap hlt,he,AA,h6,go_sem])|fail));rw [hres,hno hvf];rfl
     rw [decide_eq_true h2] at h6;cases h3:x.params.all FQ with
     |false=>
      rw [h1,h3] at hvf;rw [Cy] at hvf;rw [h1] at hnm;rw [h3] at hps;obtain ⟨nm,ps,o,n,u,ns,ks,al⟩:=x;simp only [FE.enc,Ex.A4] at he hnm h6 hps;(repeat' (first|refine ctQ rfl ?_|((first|refine rgQ mxQ ?_|refine cdQ ?_|(refine Run.Bg Gq (σ2:=Y) (CK hj) ?_)|refine AI.det (hnm) ?_|refine AI.det (hps) ?_)<;>try simp only [Ap hlt,he,AA,h6,go_sem])|fail));rw [hres,hno hvf];rfl
     |true=>
     rw [h1,h3,decide_eq_true h2] at hvf;rw [h1] at hnm;rw [h3] at hps;cases hv:vEx 40 q x.body with
     |some r=>
      have hr:=Yt _ _ _ _ hv;rw [hv] at hvf;have hc:=VXQ.yes hc hv;have hs:=hyes r hvf;obtain ⟨nm,ps,o,n,u,ns,ks,al⟩:=x;simp only [FE.enc,Ex.A4,exA,AF,AN] at he hnm h6 hps hc;(repeat' (first|refine ctQ rfl ?_|((first|refine rgQ mxQ ?_|refine cdQ ?_|(refine AI.mk rfl hc ?_;rintro _ _ ⟨rfl,rfl⟩)|refine AI.det (hnm) ?_|refine AI.det (hps) ?_)<;>try simp only [Ap hlt,he,hw1,AA,h6,go_sem])|fail));exact ih (i+1,r) ⟨by simp only;omega,by simp only;omega,hs⟩ (by simp only;omega)
     |none=>
      rw [hv] at hvf;have hc:=VXQ.no hc hv;obtain ⟨nm,ps,o,n,u,ns,ks,al⟩:=x;simp only [FE.enc,Ex.A4,exA,AF,AN] at he hnm h6 hps hc;(repeat' (first|refine ctQ rfl ?_|((first|refine rgQ mxQ ?_|refine cdQ ?_|(refine AI.mk rfl hc ?_;rintro _ _ ⟨rfl,z,rfl⟩)|(refine Run.Bg Gq (σ2:=Y) (CK hj) ?_)|refine AI.det (hnm) ?_|refine AI.det (hps) ?_)<;>try simp only [Ap hlt,he,AA,h6,go_sem])|fail));rw [hres,hno hvf];rfl
   . rw [AP (by omega)] at hok;(repeat' (first|refine ctQ rfl ?_|((first|refine rgQ mxQ ?_|refine cdQ ?_|(refine Run.Bg Gq (σ2:=Y) (CK hj) ?_))<;>try simp only [B7 hlt,go_sem])|fail));rw [hres,hok];rfl
def sZ (ds:List DE) (fs:List FE) (Y σ3:AH) (j:Nat) (hle:Y.le σ3) (hb:σ3.blk j=some [.d (.int .i64 600)]) (hsj:Y.blk j=none) (hres:Eb ⟨ds,fs⟩=(fs.foldlM Vc 600).isSome) (hf24:fs.length<=24):
 Run QH (fun v σ'=>v= .d (.bool (Eb ⟨ds,fs⟩))/\σ'=Y) [.code (.loop aN),.blk 6,.code (.seq (.reg [⟨some 2,.mv (.c (.d (.bool true))),none⟩] [2]) .ret)] (put 1 (.lp 1 0) (put 7 (.gp j 0) (put 8 (.d (.int .i64 0)) U))) (At 1 [.d (.sl (ds.map DE.enc)),.d (.sl (fs.map FE.enc))] E) σ3:=by
 refine Run.BB ?_;refine Run.AKB (σ':=σ3.AL j [.d (.int .i64 (Hd 600))]) (FU hb) ?_
 refine Run.BE ((fun (a1:AV) (a7:AV)=>fun (y:Nat×Nat)=>put 1 a1 (put 7 a7 (put 8 (.d (.int .i64 y.1)) U))) _ _) (fun _=>At 1 [.d (.sl (ds.map DE.enc)),.d (.sl (fs.map FE.enc))] E) (fun y=>σ3.AL j [.d (.int .i64 (Hd y.2))])
  (fun y=>y.1<=fs.length/\y.2<=600/\(fs.take y.1).foldlM Vc 600=some y.2) (fun y=>fs.length - y.1) ?_ (0,600) ⟨by simp,by simp,rfl⟩
 rintro ⟨i,q⟩ ⟨hi,hq,hok⟩ ih;simp only at hi hq hok;have hσ:∀z:Int,Y.le (σ3.AL j [.d (.int .i64 z)]):=fun z=>EC hle hsj;by_cases hlt:i < fs.length
 . obtain ⟨x,Z⟩:=Ai hlt;have he:=BI (enc:=FE.enc) Z;have hw1:=wsu i;have hnm:=Dq x.name 1 (σ3.AL j [.d (.int .i64 (Hd q))]);rw [show J4 1 x.name=FQ x.name from rfl] at hnm;have hps:=KJ x.params true (σ3.AL j [.d (.int .i64 (Hd q))]);rw [XU] at hps;have hc:=oI j 40 q (AS _) hq x.body (σ3.AL j [.d (.int .i64 (Hd q))]) (by simp only [AJ,if_true]);rw [show ((40:Nat):Int)=40 from rfl] at hc;have hno:Vc q x=none->fs.foldlM Vc 600=none:=fun h=>MB hok Z h;have hyes:∀r,Vc q x=some r->(fs.take (i+1)).foldlM Vc 600=some r:=fun r h=>by rw [MC hok Z,h]
   have hvf:Vc q x=if FQ x.name&&(decide (x.params.length<=6)&&x.params.all FQ) then vEx 40 q x.body else none:=by
    unfold Vc AQZ;rw [Bool.and_assoc]
   generalize (decide (x.params.length<=6)&&x.params.all FQ)=bp at hps hvf;cases h1:FQ x.name with
   |false=>
    rw [h1] at hnm hvf;obtain ⟨nm,ps,o,n,u,ns,ks,al⟩:=x;simp only [FE.enc,Ex.A4] at he hnm;(repeat' ((first|refine wQ ?_|(refine Run.Bg P4 (σ2:=Y) (hσ _) ?_)|refine AI.det (hnm) ?_|fail)<;>try simp only [Ap hlt,he,AA,go_sem]));rw [hres,hno hvf];rfl
   |true=>
   rw [h1] at hnm;cases bp with
   |false=>
    rw [h1] at hvf;obtain ⟨nm,ps,o,n,u,ns,ks,al⟩:=x;simp only [FE.enc,Ex.A4] at he hnm hps;(repeat' ((first|refine wQ ?_|(refine Run.Bg P4 (σ2:=Y) (hσ _) ?_)|refine AI.det (hnm) ?_|refine AI.det (hps) ?_|fail)<;>try simp only [Ap hlt,he,AA,go_sem]));rw [hres,hno hvf];rfl
   |true=>
   rw [h1] at hvf;cases hv:vEx 40 q x.body with
   |some r=>
    have hr:=Yt _ _ _ _ hv;rw [hv] at hvf;have hc:=VXQ.yes hc hv;have hs:=hyes r hvf;obtain ⟨nm,ps,o,n,u,ns,ks,al⟩:=x;simp only [FE.enc,Ex.A4,exA,AF,AN] at he hnm hps hc;(repeat' ((first|refine wQ ?_|(refine AI.mk rfl hc ?_;rintro _ _ ⟨rfl,rfl⟩)|refine AI.det (hnm) ?_|refine AI.det (hps) ?_|fail)<;>try simp only [Ap hlt,he,hw1,AA,go_sem]));exact ih (i+1,r) ⟨by simp only;omega,by simp only;omega,hs⟩ (by simp only;omega)
   |none=>
    rw [hv] at hvf;have hc:=VXQ.no hc hv;obtain ⟨nm,ps,o,n,u,ns,ks,al⟩:=x;simp only [FE.enc,Ex.A4,exA,AF,AN] at he hnm hps hc;(repeat' ((first|refine wQ ?_|(refine AI.mk rfl hc ?_;rintro _ _ ⟨rfl,z,rfl⟩)|(refine Run.Bg P4 (σ2:=Y) (hσ _) ?_)|refine AI.det (hnm) ?_|refine AI.det (hps) ?_|fail)<;>try simp only [Ap hlt,he,AA,go_sem]));rw [hres,hno hvf];rfl
 . rw [AP (by omega)] at hok;(repeat' ((first|refine wQ ?_|(refine Run.Bg P4 (σ2:=Y) (hσ _) ?_)|fail)<;>try simp only [B7 hlt,AA,go_sem]));rw [hres,hok];rfl
def AEJ (p:Pg) (Y:AH) (h:∀d∈p.data,J5 d):AR Tzp 41 [pgA p] Y (fun v σ'=>v= .d (.bool (Eb p))/\σ'=Y):=by
 obtain ⟨ds,fs⟩:=p;refine AHL (by simp) ?_;rw [Bj,pgA];simp only [Pg.enc,AF,AN] at h ⊢;have h12:decide ((12:Int) < (ds.length:Int))=!decide (ds.length<=12):=gtN _ 12;have h24:decide ((24:Int) < (fs.length:Int))=!decide (fs.length<=24):=gtN _ 24;by_cases hd:ds.length<=12
 case neg=>
  (repeat' (refine wP ?_<;>try simp only [AA,h12,decide_eq_false hd,go_sem]));simp [Eb,hd]
 by_cases hf:fs.length<=24
 case neg=>
  (repeat' (refine wP ?_<;>try simp only [AA,h12,decide_eq_true hd,h24,decide_eq_false hf,go_sem]));simp [Eb,hf]
 have hres:Eb ⟨ds,fs⟩=(ds.all OK&&(fs.foldlM Vc 600).isSome):=by simp [Eb,hd,hf]
 have hbad:∀d∈ds,OK d=false->Eb ⟨ds,fs⟩=false:=fun d hm hb=>by
  rw [hres,List.all_eq_false.2 ⟨d,hm,by simp [hb]⟩];rfl
 (repeat' (refine wQ ?_<;>try simp only [AA,h12,decide_eq_true hd,h24,decide_eq_true hf,go_sem]));refine Run.BB ?_;refine Run.BE ((fun (a1:AV)=>fun (i:Nat)=>put 1 a1 (put 3 (.d (.int .i64 i)) U)) _) (fun _=>At 1 [.d (.sl (ds.map DE.enc)),.d (.sl (fs.map FE.enc))] E) (fun _=>Y) (fun i=>i<=ds.length/\(ds.take i).all OK=true) (fun i=>ds.length - i) ?_ 0 ⟨by simp,by simp⟩;rintro i ⟨hi,hok⟩ ih;by_cases hlt:i < ds.length
 . obtain ⟨x,Z⟩:=Ai hlt;have hxm:=AD Z;have he:=BI (enc:=DE.enc) Z;have hw1:=wsu i;have hxs:=h x hxm;have hbx:=hbad x hxm;have hs:=fun hp=>Ml (p:=OK) hok Z hp;have hnm:=Dq x.name 2 Y;rw [show J4 2 x.name=HA x.name from rfl] at hnm;have hbs:=KJ x.vars true Y;rw [XU] at hbs;have h8:decide ((8:Int) < (x.cons.length:Int))=!decide (x.cons.length<=8):=gtN _ 8
   have hl1:decide ((x.cons.length:Int) < 1)=!decide (1<=x.cons.length):=by
    rw [Ak];simp only [decide_eq_true_eq,Br,decide_eq_false_iff_not];omega
   have hdx:OK x=(((HA x.name&&(decide (x.vars.length<=6)&&x.vars.all FQ))&&(decide (1<=x.cons.length)&&decide (x.cons.length<=8)))&&x.cons.all nJ):=by
    simp [OK,Bool.and_assoc]
   obtain ⟨nm,vs,cs⟩:=x;simp only [DE.enc] at he hnm hbs h8 hl1 hdx hxs;cases hA:HA nm with
   |false=>
    rw [hA] at hnm hdx;(repeat' ((first|refine wP ?_|refine AI.det (hnm) ?_|fail)<;>try simp only [Ap hlt,he,AA,go_sem]));rw [hbx hdx]
   |true=>
   rw [hA] at hnm;cases hB:(decide (vs.length<=6)&&vs.all FQ) with
   |false=>
    rw [hB] at hbs;rw [hA,hB] at hdx;(repeat' ((first|refine wP ?_|refine AI.det (hnm) ?_|refine AI.det (hbs) ?_|fail)<;>try simp only [Ap hlt,he,AA,go_sem]));rw [hbx hdx]
   |true=>
   rw [hB] at hbs;by_cases hC:1<=cs.length
   case neg=>
    rw [decide_eq_false hC] at hl1 hdx;(repeat' ((first|refine wP ?_|refine AI.det (hnm) ?_|refine AI.det (hbs) ?_|fail)<;>try simp only [Ap hlt,he,AA,hl1,go_sem]));rw [hbx (by rw [hdx];simp)]
   rw [decide_eq_true hC] at hl1;by_cases hD:cs.length<=8
   case neg=>
    rw [decide_eq_false hD] at h8 hdx;(repeat' ((first|refine wP ?_|refine AI.det (hnm) ?_|refine AI.det (hbs) ?_|fail)<;>try simp only [Ap hlt,he,AA,hl1,h8,go_sem]));rw [hbx (by rw [hdx];simp)]
   rw [decide_eq_true hD] at h8;rw [hA,hB,decide_eq_true hC,decide_eq_true hD] at hdx;simp only [XB,Bk] at hdx;rw [hdx] at hbx hs;(repeat' ((first|refine wQ ?_|refine AI.det (hnm) ?_|refine AI.det (hbs) ?_|fail)<;>try simp only [Ap hlt,he,AA,hl1,h8,go_sem]));refine Run.BB ?_;refine Run.BE ((fun (a1:AV) (a3:AV) (a4:AV)=>fun (k:Nat)=>put 1 a1 (put 3 a3 (put 4 a4 (put 5 (.d (.int .i64 k)) U)))) _ _ _) (fun _=>At 1 [.d (.sl (ds.map DE.enc)),.d (.sl (fs.map FE.enc))] (At 4 [.d (.str nm),.d (.sl (vs.map BX)),.d (.sl (cs.map CE.enc))] E)) (fun _=>Y) (fun k=>k<=cs.length/\(cs.take k).all nJ=true) (fun k=>cs.length - k) ?_ 0 ⟨by simp,by simp⟩;rintro k ⟨hk,hokc⟩ ih2;by_cases hkl:k < cs.length
   . obtain ⟨c,hc⟩:=Ai hkl;have hcm:=AD hc;have hec:=BI (enc:=CE.enc) hc;have hwk:=wsu k;have hcs:=hxs c hcm;have hbc:nJ c=false->Eb ⟨ds,fs⟩=false:=fun hb=>hbx (List.all_eq_false.2 ⟨c,hcm,by simp [hb]⟩);have hsc:=fun hp=>Ml (p:=nJ) hokc hc hp;have hcn:=Dq c.name 2 Y;rw [show J4 2 c.name=HA c.name from rfl] at hcn;have h6:decide ((6:Int) < (c.args.length:Int))=!decide (c.args.length<=6):=gtN _ 6;have hcx:nJ c=(HA c.name&&decide (c.args.length<=6)&&c.args.all (DS 40)):=rfl;obtain ⟨cn,ar⟩:=c;simp only [CE.enc] at hec hcn h6 hcx hcs;cases hE:HA cn with
     |false=>
      rw [hE] at hcn hcx;(repeat' ((first|refine wP ?_|refine AI.det (hcn) ?_|fail)<;>try simp only [Ap hkl,hec,AA,go_sem]));rw [hbc hcx]
     |true=>
     rw [hE] at hcn;by_cases hF:ar.length<=6
     case neg=>
      rw [decide_eq_false hF] at h6 hcx;(repeat' ((first|refine wP ?_|refine AI.det (hcn) ?_|fail)<;>try simp only [Ap hkl,hec,AA,h6,go_sem]));rw [hbc (by rw [hcx];simp)]
     rw [decide_eq_true hF] at h6;rw [hE,decide_eq_true hF] at hcx;simp only [XB,Bk] at hcx;rw [hcx] at hbc hsc;(repeat' ((first|refine wQ ?_|refine AI.det (hcn) ?_|fail)<;>try simp only [Ap hkl,hec,AA,h6,go_sem]));refine Run.BB ?_;refine Run.BE ((fun (a1:AV) (a3:AV) (a4:AV) (a5:AV)=>fun (a:Nat)=>put 1 a1 (put 3 a3 (put 4 a4 (put 5 a5 (put 6 (.d (.int .i64 a)) U))))) _ _ _ _) (fun _=>At 1 [.d (.sl (ds.map DE.enc)),.d (.sl (fs.map FE.enc))] (At 4 [.d (.str nm),.d (.sl (vs.map BX)),.d (.sl (cs.map CE.enc))] E)) (fun _=>Y) (fun a=>a<=ar.length/\(ar.take a).all (DS 40)=true) (fun a=>ar.length - a) ?_ 0 ⟨by simp,by simp⟩;rintro a ⟨ha,hoka⟩ ih3;by_cases hal:a < ar.length
     . obtain ⟨t,ht⟩:=Ai hal;have htm:=AD ht;have het:=BI (enc:=TE.enc) ht;have hwa:=wsu a;have hv:=oJ 40 t Y (AS _) (hcs t htm);rw [show ((40:Nat):Int)=40 from rfl] at hv;cases hp:DS 40 t with
       |true=>
        rw [hp] at hv;obtain ⟨tk,tn,tl⟩:=t;simp only [TE.A4,teA,AF,AN] at het hv;(repeat' ((first|refine wQ ?_|refine AI.det (hv) ?_|fail)<;>try simp only [Ap hal,hec,het,hwa,AA,go_sem]));exact ih3 (a+1) ⟨by omega,Ml hoka ht hp⟩ (by omega)
       |false=>
        rw [hp] at hv;obtain ⟨tk,tn,tl⟩:=t;simp only [TE.A4,teA,AF,AN] at het hv;(repeat' ((first|refine wP ?_|refine AI.det (hv) ?_|fail)<;>try simp only [Ap hal,hec,het,AA,go_sem]));rw [hbc (pS ht hp)]
     . rw [AP (by omega)] at hoka;(repeat' (refine wQ ?_<;>try simp only [B7 hal,hec,hwk,AA,go_sem]));exact ih2 (k+1) ⟨by omega,hsc hoka⟩ (by omega)
   . rw [AP (by omega)] at hokc;(repeat' (refine wQ ?_<;>try simp only [B7 hkl,hw1,AA,go_sem]));exact ih (i+1) ⟨by omega,hs hokc⟩ (by omega)
 . rw [AP (by omega)] at hok;rw [hok,Bk] at hres;clear ih;(repeat' (refine wQ ?_<;>try simp only [B7 hlt,AA,go_sem]));intro j hj;obtain ⟨hle3,hb⟩:=APJ (z:=[.d (.int .i64 0)]) (x:=([AV.d (.int .i64 0)].length,3)) hj;simp only [A0,Bw,BF] at hle3 hb;generalize (Y.AL j [.d (.int .i64 0)]).Bl j (1,3)=σ3 at hle3 hb ⊢;simp only [hb,go_sem];(repeat' (refine wQ ?_<;>try simp only [hb,AA,go_sem]));exact sZ ds fs Y (σ3.AL j [.d (.int .i64 600)]) j (EC hle3 hj.1) (by simp only [AJ,if_true]) hj.1 hres hf
set_option maxRecDepth 100000
set_option maxHeartbeats 40000000
noncomputable section
noncomputable def PE:Cx:=⟨Tzp,52,Tryz.f52,36,[13,300008,300015,300023],[],[.t 2,.c 3 (some 3)]⟩
instance Kn:Good PE:=⟨Tryz.func52,by kernel_rfl,mixed⟩
def bB:PE.rs=[.t 2,.c 3 (some 3)]:=rfl
noncomputable def fM:=BG PE [] fun c a=>G c [a]
def nB:C:=lpC 0 (fM .skip)
def zY:C:=(fM nB).1
def AAN:Inn PE zY 36:=inn [] Kn Tryz.ntmps52
def JV:List (Nat×PT):=[(3,(pO [0,1,2,3,5,6,7,8,9,10] (.alt 4 (pO [11,12,13,14,15] .done) (.alt 11 (pO [4,12,13,14,15] .done) .done)))),(21,(pO [0,1,2,4,5,6,7,8,9,10,11,12,13,14] (.alt 3 (pO [15,16,17,18] .done) (.alt 15 (pO [3,16,17,18] .done) .done))))]
noncomputable def DL:Cx:=⟨Tzp,89,Tryz.f89,115,[37,100038,300018,300023,300032,300034,300042,300052,300064,300071,300074,300082,300090,300091,300109],[],[.t 4]⟩
instance SI:Good DL:=⟨Tryz.func89,by kernel_rfl,mixed⟩
def Qk:DL.rs=[.t 4]:=rfl
noncomputable def G1:=BG DL JV fun c a b=>G c [a,b]
def Hg:C:=lpC 0 (G1 .skip .skip)
def Hh:C:=lpC 1 (G1 Hg .skip)
def Ro:C:=(G1 Hg Hh).1
def SW:Inn DL Ro 115:=inn JV SI Tryz.ntmps89
noncomputable def Mb:Cx:=⟨Tzp,96,Tryz.f96,58,[300011,300016,300018,300019,300023,300030,300032,300038,300044,300045],[],[.c 2 (some 3)]⟩
instance vI:Good Mb:=⟨Tryz.func96,by kernel_rfl,mixed⟩
def tE:Mb.rs=[.c 2 (some 3)]:=rfl
noncomputable def aV:=BG Mb [] fun c a=>G c [a]
def iJ:C:=lpC 0 (aV .skip)
def u5:C:=(aV iJ).1
def vR:Inn Mb u5 58:=inn [] vI Tryz.ntmps96
noncomputable def LQ:Cx:=⟨Tzp,97,Tryz.f97,6,[300003],[],[.t 2]⟩
instance rE:Good LQ:=⟨Tryz.func97,by kernel_rfl,mixed⟩
def oP:LQ.rs=[.t 2]:=rfl
noncomputable def r6:=BG LQ [] (G · [])
def qB:C:=(r6).1
def rM:Inn LQ qB 6:=inn [] rE Tryz.ntmps97
noncomputable def Cw:Cx:=⟨Tzp,111,Tryz.f111,19,[],[],[.t 4]⟩
instance MG:Good Cw:=⟨Tryz.func111,by kernel_rfl,mixed⟩
def Ld:Cw.rs=[.t 4]:=rfl
noncomputable def Gv:=BG Cw [] fun c a=>G c [a]
def K3:C:=lpC 0 (Gv .skip)
def Lu:C:=(Gv K3).1
def ML:Inn Cw Lu 19:=inn [] MG Tryz.ntmps111
noncomputable def Fa:Cx:=⟨Tzp,127,Tryz.f127,11,[3],[],[.t 4]⟩
instance Lf:Good Fa:=⟨Tryz.func127,by kernel_rfl,mixed⟩
def VZ:Fa.rs=[.t 4]:=rfl
noncomputable def Wh:=BG Fa [] (G · [])
def WO:C:=(Wh).1
def W9:Inn Fa WO 11:=inn [] Lf Tryz.ntmps127
noncomputable def I2:Cx:=⟨Tzp,128,Tryz.f128,22,[],[],[.t 2]⟩
instance jO:Good I2:=⟨Tryz.func128,by kernel_rfl,mixed⟩
def gM:I2.rs=[.t 2]:=rfl
noncomputable def Tq:=BG I2 [] fun c a=>G c [a]
def Z3:C:=lpC 0 (Tq .skip)
def iL:C:=(Tq Z3).1
def jU:Inn I2 iL 22:=inn [] jO Tryz.ntmps128
noncomputable def Gc:Cx:=⟨Tzp,129,Tryz.f129,38,[],[],[.t 4,.t 5,.t 6]⟩
instance Zc:Good Gc:=⟨Tryz.func129,by kernel_rfl,mixed⟩
def Y9:Gc.rs=[.t 4,.t 5,.t 6]:=rfl
noncomputable def Ik:=BG Gc [] fun c a b=>G c [a,b]
def Kh:C:=lpC 0 (Ik .skip .skip)
def U6:C:=lpC 1 (Ik Kh .skip)
def Z1:C:=(Ik Kh U6).1
def OQ:Inn Gc Z1 38:=inn [] Zc Tryz.ntmps129
noncomputable def DM:Cx:=⟨Tzp,130,Tryz.f130,103,[300014,300017,300026,300030,300037,300041,300045,300052,300059,300072,300079,300087,300096,300097,300102],[],[.c 6 (some 3),.t 7]⟩
instance GZ:Good DM:=⟨Tryz.func130,by kernel_rfl,mixed⟩
def Ql:DM.rs=[.c 6 (some 3),.t 7]:=rfl
noncomputable def JI:=BG DM [] fun c a=>G c [a]
def Hi:C:=lpC 0 (JI .skip)
def Rp:C:=(JI Hi).1
def SY:Inn DM Rp 103:=inn [] GZ Tryz.ntmps130
noncomputable def I1:Cx:=⟨Tzp,148,Tryz.f148,9,[3,300006],[],[.t 4]⟩
instance T6:Good I1:=⟨Tryz.func148,by kernel_rfl,mixed⟩
def gL:I1.rs=[.t 4]:=rfl
noncomputable def kC:=BG I1 [] (G · [])
def iK:C:=(kC).1
def jT:Inn I1 iK 9:=inn [] T6 Tryz.ntmps148
noncomputable def J7:Cx:=⟨Tzp,149,Tryz.f149,25,[11,300014,300017],[],[.t 4,.t 5]⟩
instance Nl:Good J7:=⟨Tryz.func149,by kernel_rfl,mixed⟩
def k7:J7.rs=[.t 4,.t 5]:=rfl
noncomputable def nY:=BG J7 [] (G · [])
def nC:C:=(nY).1
def nQ:Inn J7 nC 25:=inn [] Nl Tryz.ntmps149
noncomputable def F9:Cx:=⟨Tzp,150,Tryz.f150,107,[300013,300018,300023,300025,300033,300035,300043,300046,300061,300065,300067,300072,300076,300081,300086,300088,300094,300099],[],[.t 6]⟩
instance W0:Good F9:=⟨Tryz.func150,by kernel_rfl,mixed⟩
def VY:F9.rs=[.t 6]:=rfl
noncomputable def Wg:=BG F9 [] (G · [])
def WN:C:=(Wg).1
def W8:Inn F9 WN 107:=inn [] W0 Tryz.ntmps150
def QD:List (Nat×PT):=[(6,(pO [2] (.alt 0 (.alt 1 (pO [3,4,5] .done) (.alt 3 (pO [1,4,5] .done) .done)) (.alt 1 (.alt 0 (pO [3,4,5] .done) (.alt 3 (pO [0,4,5] .done) .done)) (.alt 3 (pO [0,1,4,5] .done) .done)))))]
noncomputable def CJ:Cx:=⟨Tzp,151,Tryz.f151,83,[1,3,4,5,6,7],[],[.t 2]⟩
instance P5:Good CJ:=⟨Tryz.func151,by kernel_rfl,mixed⟩
def Zw:CJ.rs=[.t 2]:=rfl
noncomputable def HR:=BG CJ QD fun c a b d=>G c [a,b,d]
def F3:C:=lpC 0 (HR .skip .skip .skip)
def Hc:C:=lpC 1 (HR F3 .skip .skip)
def Le:C:=lpC 2 (HR F3 Hc .skip)
def bN:C:=(HR F3 Hc Le).1
def cN:Inn CJ bN 83:=inn QD P5 Tryz.ntmps151
noncomputable def Ma:Cx:=⟨Tzp,152,Tryz.f152,53,[1,6,300029],[],[.t 2]⟩
instance SH:Good Ma:=⟨Tryz.func152,by kernel_rfl,mixed⟩
def Y8:Ma.rs=[.t 2]:=rfl
noncomputable def Sc:=BG Ma [] fun c a b=>G c [a,b]
def TK:C:=lpC 0 (Sc .skip .skip)
def iI:C:=lpC 1 (Sc TK .skip)
def u4:C:=(Sc TK iI).1
def vQ:Inn Ma u4 53:=inn [] SH Tryz.ntmps152
noncomputable def D8:Cx:=⟨Tzp,187,Tryz.f187,19,[],[],[.t 4]⟩
instance Og:Good D8:=⟨Tryz.func187,by kernel_rfl,mixed⟩
def OA:D8.rs=[.t 4]:=rfl
noncomputable def Ho:=BG D8 [] fun c a=>G c [a]
def Lt:C:=lpC 0 (Ho .skip)
def O5:C:=(Ho Lt).1
def Oj:Inn D8 O5 19:=inn [] Og Tryz.ntmps187
noncomputable def Ee:Cx:=⟨Tzp,188,Tryz.f188,8,[300005],[],[.t 3]⟩
instance T7:Good Ee:=⟨Tryz.func188,by kernel_rfl,mixed⟩
def Sr:Ee.rs=[.t 3]:=rfl
noncomputable def Tr:=BG Ee [] (G · [])
def TP:C:=(Tr).1
def Te:Inn Ee TP 8:=inn [] T7 Tryz.ntmps188
noncomputable def EU:Cx:=⟨Tzp,189,Tryz.f189,9,[],[],[.t 4]⟩
instance SJ:Good EU:=⟨Tryz.func189,by kernel_rfl,mixed⟩
def Qn:EU.rs=[.t 4]:=rfl
noncomputable def Sd:=BG EU [] (G · [])
def Rr:C:=(Sd).1
def SZ:Inn EU Rr 9:=inn [] SJ Tryz.ntmps189
noncomputable def Fb:Cx:=⟨Tzp,190,Tryz.f190,19,[],[],[.t 4]⟩
instance W1:Good Fb:=⟨Tryz.func190,by kernel_rfl,mixed⟩
def V0:Fb.rs=[.t 4]:=rfl
noncomputable def Li:=BG Fb [] fun c a=>G c [a]
def Rs:C:=lpC 0 (Li .skip)
def WR:C:=(Li Rs).1
def Wa:Inn Fb WR 19:=inn [] W1 Tryz.ntmps190
noncomputable def D7:Cx:=⟨Tzp,191,Tryz.f191,12,[],[],[.t 4]⟩
instance Of:Good D7:=⟨Tryz.func191,by kernel_rfl,mixed⟩
def Nz:D7.rs=[.t 4]:=rfl
noncomputable def Om:=BG D7 [] (G · [])
def O4:C:=(Om).1
def Oi:Inn D7 O4 12:=inn [] Of Tryz.ntmps191
noncomputable def HX:Cx:=⟨Tzp,210,Tryz.f210,8,[300005],[],[.t 3]⟩
instance cH:Good HX:=⟨Tryz.func210,by kernel_rfl,mixed⟩
def Zx:HX.rs=[.t 3]:=rfl
noncomputable def cZ:=BG HX [] (G · [])
def bO:C:=(cZ).1
def cO:Inn HX bO 8:=inn [] cH Tryz.ntmps210
noncomputable def Gd:Cx:=⟨Tzp,211,Tryz.f211,108,[300019,300026,300036,300039,300047,300051,300055,300064,300075,300083,300098,300101],[],[.t 6]⟩
instance Ze:Good Gd:=⟨Tryz.func211,by kernel_rfl,mixed⟩
def Yb:Gd.rs=[.t 6]:=rfl
noncomputable def Il:=BG Gd [] fun c a b=>G c [a,b]
def Kj:C:=lpC 0 (Il .skip .skip)
def U7:C:=lpC 1 (Il Kj .skip)
def Z4:C:=(Il Kj U7).1
def Zk:Inn Gd Z4 108:=inn [] Ze Tryz.ntmps211
noncomputable def GA:Cx:=⟨Tzp,212,Tryz.f212,21,[100018],[],[.t 4]⟩
instance Xn:Good GA:=⟨Tryz.func212,by kernel_rfl,mixed⟩
def Wm:GA.rs=[.t 4]:=rfl
noncomputable def NK:=BG GA [] fun c a=>G c [a]
def TL:C:=lpC 0 (NK .skip)
def XX:C:=(NK TL).1
def Xx:Inn GA XX 21:=inn [] Xn Tryz.ntmps212
noncomputable def Ey:Cx:=⟨Tzp,213,Tryz.f213,17,[],[],[.t 4]⟩
instance Zd:Good Ey:=⟨Tryz.func213,by kernel_rfl,mixed⟩
def Ya:Ey.rs=[.t 4]:=rfl
noncomputable def OS:=BG Ey [] fun c a=>G c [a]
def Ki:C:=lpC 0 (OS .skip)
def Z2:C:=(OS Ki).1
def Zj:Inn Ey Z2 17:=inn [] Zd Tryz.ntmps213
def N2:List (Nat×PT):=[(15,(pO [0,1,2,3,4,5,6,7,9,8,10] .done))]
noncomputable def GF:Cx:=⟨Tzp,214,Tryz.f214,79,[300022,300024,300032,300035,300047,300053],[],[.t 4]⟩
instance Cm:Good GF:=⟨Tryz.func214,by kernel_rfl,mixed⟩
def Wn:GF.rs=[.t 4]:=rfl
noncomputable def NL:=BG GF N2 fun c a=>G c [a]
def TM:C:=lpC 0 (NL .skip)
def XY:C:=(NL TM).1
def Xy:Inn GF XY 79:=inn N2 Cm Tryz.ntmps214
noncomputable def GG:Cx:=⟨Tzp,215,Tryz.f215,34,[],[],[]⟩
instance IC:Good GG:=⟨Tryz.func215,by kernel_rfl,mixed⟩
def Wo:GG.rs=[]:=rfl
noncomputable def NM:=BG GG [] fun c a=>G c [a]
def TN:C:=lpC 0 (NM .skip)
def XZ:C:=(NM TN).1
def Xz:Inn GG XZ 34:=inn [] IC Tryz.ntmps215
noncomputable def GH:Cx:=⟨Tzp,216,Tryz.f216,36,[],[],[.t 5]⟩
instance Xo:Good GH:=⟨Tryz.func216,by kernel_rfl,mixed⟩
def Wq:GH.rs=[.t 5]:=rfl
noncomputable def NN:=BG GH [] fun c a=>G c [a]
def TO:C:=lpC 0 (NN .skip)
def X0:C:=(NN TO).1
def YA:Inn GH X0 36:=inn [] Xo Tryz.ntmps216
def WG:List (Nat×PT):=[(2,(pO [1,2,3] (.alt 0 (pO [4,5,6] .done) (.alt 4 (pO [0,5,6] .done) .done))))]
noncomputable def J6:Cx:=⟨Tzp,217,Tryz.f217,23,[300008,300013,300020],[],[.t 6]⟩
instance nL:Good J6:=⟨Tryz.func217,by kernel_rfl,mixed⟩
def k6:J6.rs=[.t 6]:=rfl
noncomputable def nX:=BG J6 WG (G · [])
def mZ:C:=(nX).1
def nP:Inn J6 mZ 23:=inn WG nL Tryz.ntmps217
noncomputable def EE:Cx:=⟨Tzp,248,Tryz.f248,32,[300027],[],[.t 6]⟩
instance Q2:Good EE:=⟨Tryz.func248,by kernel_rfl,mixed⟩
def Pw:EE.rs=[.t 6]:=rfl
noncomputable def I9:=BG EE [] fun c a=>G c [a]
def Nf:C:=lpC 0 (I9 .skip)
def QQ:C:=(I9 Nf).1
def Qa:Inn EE QQ 32:=inn [] Q2 Tryz.ntmps248
noncomputable def DD:Cx:=⟨Tzp,249,Tryz.f249,14,[300006,300010],[],[.t 4]⟩
instance HK:Good DD:=⟨Tryz.func249,by kernel_rfl,mixed⟩
def MX:DD.rs=[.t 4]:=rfl
noncomputable def NO:=BG DD [] (G · [])
def Mm:C:=(NO).1
def NF:Inn DD Mm 14:=inn [] HK Tryz.ntmps249
noncomputable def FD:Cx:=⟨Tzp,258,Tryz.f258,9,[],[],[.t 4]⟩
instance Ur:Good FD:=⟨Tryz.func258,by kernel_rfl,mixed⟩
def UD:FD.rs=[.t 4]:=rfl
noncomputable def VH:=BG FD [] (G · [])
def U8:C:=(VH).1
def Kt:Inn FD U8 9:=inn [] Ur Tryz.ntmps258
noncomputable def Ge:Cx:=⟨Tzp,289,Tryz.f289,19,[],[],[.t 4]⟩
instance Zf:Good Ge:=⟨Tryz.func289,by kernel_rfl,mixed⟩
def Yc:Ge.rs=[.t 4]:=rfl
noncomputable def OT:=BG Ge [] fun c a=>G c [a]
def Ua:C:=lpC 0 (OT .skip)
def Z5:C:=(OT Ua).1
def OR:Inn Ge Z5 19:=inn [] Zf Tryz.ntmps289
attribute [go_sem] bB Qk tE oP Ld VZ gM Y9 Ql gL k7 VY Zw Y8 OA Sr Qn V0 Nz Zx Yb Wm Ya Wn Wo Wq k6 Pw MX UD Yc
end
def bdD:List Str->DV
 |[]=>.EO
 |s::l=>.ptr [.str s,bdD l]
def bdL (sc:List Str):DV:=bdD ((sc.filter (fun s=>!(s==[]))).reverse)
def ACJ (sc:List Str) (s:Str) (h:(s==[])=false):bdL (sc++[s])= .ptr [.str s,bdL sc]:=by
 have h1:List.filter (fun s=>!(s==[])) [s]=[s]:=by rw [List.filter_cons,h];rfl
 rw [bdL,QN,h1,List.reverse_append];rfl
def pX (sc:List Str) (s:Str) (h:(s==[])=true):bdL (sc++[s])=bdL sc:=by
 have h1:List.filter (fun s=>!(s==[])) [s]=[]:=by rw [List.filter_cons,h];rfl
 rw [bdL,QN,h1,Bu];rfl
def AYQ:∀(l:List Str) (s:Str) (Y:AH),AR Tzp 213 [.d (bdD l),.d (.str s)] Y (fun v σ'=>v= .d (.bool (l.contains s))/\σ'=Y):=by
 intro l s Y;refine Zj (by simp) ?_;rw [BD];(repeat' (refine wQ ?_<;>try simp only [go_sem]));refine Run.BB ?_
 have Z:∀l0:List Str,l0.contains s=l.contains s->Run Ey (fun v σ'=>v= .d (.bool (l.contains s))/\σ'=Y) [.again Ki,.blk 0,.code (.seq (.reg [⟨some 4,.mv (.c (.d (.bool false))),none⟩] [4]) .ret)] (put 0 (.d (bdD l0)) (put 1 (.d (.str s)) U)) E Y:=by
  intro l0
  induction l0 with
  |nil=>
   intro h;refine Run.again ?_;simp only [bdD];(repeat' (refine wP ?_<;>try simp only [go_sem]));rw [<- h];rfl
  |cons x l0 ih=>
   intro h;refine Run.again ?_;simp only [bdD];rw [QM] at h;cases hs:(x==s) with
   |true=>
    (repeat' (refine wP ?_<;>try simp only [CA,hs,go_sem]));rw [<- h,BEq.comm,hs];rfl
   |false=>
    rw [show (s==x)=(x==s) from BEq.comm,hs,Ep] at h;(repeat' (refine wQ ?_<;>try simp only [CA,hs,go_sem]));exact ih h
 exact Z l rfl
def AAJ (sc:List Str) (s:Str) (hs:s≠[]) (Y:AH):AR Tzp 213 [.d (bdL sc),.d (.str s)] Y (fun v σ'=>v= .d (.bool (sc.contains s))/\σ'=Y):=
 (AYQ _ s Y).mono (by
   rintro v σ' ⟨rfl,rfl⟩;refine ⟨?_,rfl⟩;congr 2;rw [Ak];simp [hs])
def ZR (sc ns:List Str) (Y:AH):AR Tzp 212 [.d (bdL sc),.d (.sl (ns.map BX))] Y (fun v σ'=>v= .d (bdL (sc++ns))/\σ'=Y):=by
 refine Xx (by simp) ?_;rw [BD];refine Run.slot 1 (fun hb0=>?_);simp only [DR,HN,if_false,if_true,AV.Ev,AA] at hb0;(repeat' (refine wQ ?_<;>try simp only [AA,go_sem]));refine Run.BB ?_;refine Run.BE ((fun (a7:AV) (a8:AV)=>fun (i:Nat)=>put 0 (.d (bdL (sc++ns.take i))) (put 7 a7 (put 8 a8 (put 9 (.d (.int .i64 i)) U)))) _ _) (fun _=>E) (fun _=>Y) (fun i=>i<=ns.length) (fun i=>ns.length - i) ?_ 0 (by simp)|>(fun h=>by simpa using h)
 rintro i hi ih;by_cases hlt:i < ns.length
 . obtain ⟨x,Z⟩:=Ai hlt;have he:=BI (enc:=BX) Z;simp only [BX] at he;have hw1:=wsu i;have hi1:=ih (i+1) (by omega) (by omega);simp only at hi1;rw [A5 Z,<- Aq] at hi1;cases hs:(x==[]) with
   |true=>
    rw [pX _ _ hs] at hi1;(repeat' (refine wQ ?_<;>try simp only [Ap hlt,he,hw1,F1,hs,go_sem]));exact hi1
   |false=>
    rw [ACJ _ _ hs] at hi1;(repeat' (refine wQ ?_<;>try simp only [Ap hlt,he,hw1,F1,hs,go_sem]));exact hi1
 . (repeat' (refine wP ?_<;>try simp only [B7 hlt,go_sem]));rw [AP (by omega)]
def GW {fid:FuncId} {caps:List AV} (hb:CT Tzp fid=true) (hcp:caps.all AV.BS=true) (p:FE->Bool) (l:List FE) (Y:AH) (hf:∀x∈l,AR Tzp fid ((feA x)::caps) Y (fun v σ'=>v= .d (.bool (p x))/\σ'=Y)):
 AR Tzp 111 [.d (.sl (l.map FE.enc)),.fn fid [] caps] Y (fun v σ'=>v= .d (.int .i64 (HQ (l.findIdx? p)))/\σ'=Y):=by
 refine ML (by simp) ?_;rw [BD];refine Run.slot 0 (fun hb0=>?_);simp only [DR,if_true,AV.Ev,AA] at hb0;(repeat' (refine wQ ?_<;>try simp only [AA,go_sem]));refine Run.BB ?_;refine Run.BE ((fun (a0:AV) (a1:AV) (a7:AV)=>fun (i:Nat)=>put 0 a0 (put 1 a1 (put 7 a7 (put 8 (.d (.int .i64 i)) U)))) _ _ _) (fun _=>E) (fun _=>Y) (fun i=>i<=l.length/\∀x∈l.take i,p x=false) (fun i=>l.length - i) ?_ 0 ⟨by simp,by simp⟩;rintro i ⟨hi,hno⟩ ih;by_cases hlt:i < l.length
 . obtain ⟨x,Z⟩:=Ai hlt;have he:=BI (enc:=FE.enc) Z;have hw1:=wsu i;have hc:=hf x (AD Z);obtain ⟨nm,ps,o,n,u,ns,ks,al⟩:=x;simp only [FE.enc,Ex.A4,feA,AF,AN] at he hc;cases hp:p (⟨nm,ps,.mk o n u ns ks al⟩) with
   |true=>
    rw [hp] at hc;(repeat' ((first|refine wP ?_|(refine ⟨fid,[],caps,rfl,hb,AI.det hc ?_ (by simp [hcp,Dm])⟩)|fail)<;>try simp only [Ap hlt,he,go_sem]));rw [Dj hno Z hp];rfl
   |false=>
    rw [hp] at hc;(repeat' ((first|refine wQ ?_|(refine ⟨fid,[],caps,rfl,hb,AI.det hc ?_ (by simp [hcp,Dm])⟩)|fail)<;>try simp only [Ap hlt,he,hw1,go_sem]));exact ih (i+1) ⟨by omega,F7 hno Z hp⟩ (by omega)
 . (repeat' (refine wP ?_<;>try simp only [B7 hlt,go_sem]));rw [AP (by omega)] at hno;rw [Dk hno];rfl
def To (l:List Str) (s:Str):l.findIdx? (fun x=>x==s)=DP l s:=by
 induction l with
 |nil=>rfl
 |cons x l ih=>
  rw [List.findIdx?_cons,DP];split
  . rfl
  . rw [ih]
def l6 (fs:List FE) (s:Str):fs.findIdx? (fun x=>x.name==s)=DP (DY fs) s:=by
 rw [<- To,DY,List.findIdx?_map];rfl
def vH (f:FE) (s:Str) (j:Nat) (Y:AH) (hj:Y.blk j=some [.d (.str s)]):AR Tzp 210 [feA f,.gp j 0] Y (fun v σ'=>v= .d (.bool (f.name==s))/\σ'=Y):=by
 refine cO (by simp) ?_;rw [BD];obtain ⟨nm,ps,o,n,u,ns,ks,al⟩:=f;simp only [FE.enc,Ex.A4,feA,AF,AN];(repeat' (refine wP ?_<;>try simp only [hj,CA,go_sem]))
def Xl (p:Pg) (s:Str) (Y:AH):AR Tzp 148 [pgA p,.d (.str s)] Y (fun v σ'=>v= .d (.int .i64 (HQ (DP (DY p.Dz) s)))/\σ'=Y):=by
 refine jT (by simp) ?_;rw [BD];obtain ⟨ds,fs⟩:=p;simp only [Pg.enc,pgA,AF,AN];(repeat' (refine wQ ?_<;>try simp only [go_sem]));intro j hj;have hle:=CK (cs:=[AV.d (.str s)]) hj;have hc:=GW (fid:=210) (caps:=[.gp j 0]) (by kernel_rfl) rfl (fun x=>x.name==s) fs (Y.AL j [.d (.str s)]) (fun x _=>vH x s j _ (by simp only [AJ,if_true]));rw [l6] at hc;(repeat' ((first|refine wQ ?_|(refine Run.Bg T6 (σ2:=Y) hle ?_)|refine AI.det (hc) ?_|fail)<;>try simp only [go_sem]))
def Vq (l:List Str) (s:Str) (Y:AH):AR Tzp 190 [.d (.sl (l.map BX)),.d (.str s)] Y (fun v σ'=>v= .d (.int .i64 (HQ (DP l s)))/\σ'=Y):=by
 refine Wa (by simp) ?_;rw [BD,<- To];refine Run.slot 0 (fun hb0=>?_);simp only [DR,if_true,AV.Ev,AA] at hb0;(repeat' (refine wQ ?_<;>try simp only [AA,go_sem]));refine Run.BB ?_;refine Run.BE ((fun (a0:AV) (a1:AV) (a7:AV)=>fun (i:Nat)=>put 0 a0 (put 1 a1 (put 7 a7 (put 8 (.d (.int .i64 i)) U)))) _ _ _) (fun _=>E) (fun _=>Y) (fun i=>i<=l.length/\∀x∈l.take i,(x==s)=false) (fun i=>l.length - i) ?_ 0 ⟨by simp,by simp⟩;rintro i ⟨hi,hno⟩ ih;by_cases hlt:i < l.length
 . obtain ⟨x,Z⟩:=Ai hlt;have he:=BI (enc:=BX) Z;simp only [BX] at he;have hw1:=wsu i;cases hp:(x==s) with
   |true=>
    have hp':(s==x)=true:=by rw [BEq.comm];exact hp
    (repeat' (refine wP ?_<;>try simp only [Ap hlt,he,CA,hp',go_sem]));rw [Dj (p:=fun x=>x==s) hno Z hp];rfl
   |false=>
    have hp':(s==x)=false:=by rw [BEq.comm];exact hp
    (repeat' (refine wQ ?_<;>try simp only [Ap hlt,he,hw1,CA,hp',go_sem]));exact ih (i+1) ⟨by omega,F7 (p:=fun x=>x==s) hno Z hp⟩ (by omega)
 . (repeat' (refine wP ?_<;>try simp only [B7 hlt,go_sem]));rw [AP (by omega)] at hno;rw [Dk (p:=fun x=>x==s) hno];rfl
def NI (l:List Str) (s:Str):(DP l s).isSome=l.contains s:=by
 induction l with
 |nil=>rfl
 |cons x l ih=>
  rw [DP,QM];cases h:(x==s) with
  |true=>rw [BEq.comm,h];rfl
  |false=>rw [show (s==x)=(x==s) from BEq.comm,h];simp [ih]
def bH (l:List Str) (s:Str) (Y:AH):AR Tzp 189 [.d (.sl (l.map BX)),.d (.str s)] Y (fun v σ'=>v= .d (.bool (l.contains s))/\σ'=Y):=by
 refine SZ (by simp) ?_;rw [BD];(repeat' ((first|refine wP ?_|refine AI.det (Vq l s Y) ?_|fail)<;>try simp only [Ol,NI,go_sem]))
def Yr (l:List Str) (x:Str):DC (l++[x])=(DC l||(!(x==[])&&l.contains x)):=by
 induction l with
 |nil=>
  have:DC [x]=false:=by rw [DC,DC];simp
  rw [Ag,this];simp [DC]
 |cons y l ih=>
  rw [AX,DC,ih,DC,QM]
  have h1:(l++[x]).contains y=(l.contains y||(x==y)):=by
   rw [Ak];simp only [Ar,AZ,A3,Cb,beq_iff_eq];constructor
   . rintro (h|h)
     . exact .inl h
     . exact .inr h.symm
   . rintro (h|h)
     . exact .inl h
     . exact .inr h.symm
  rw [h1];by_cases hxy:x=y
  . subst hxy;have h2:(x==x)=true:=by simp
    rw [h2];generalize (x==([]:Str))=b1;generalize DC l=b2;generalize l.contains x=b3;cases b1<;>cases b2<;>cases b3<;>rfl
  . have h2:(x==y)=false:=by simpa using hxy
    rw [h2];generalize (x==([]:Str))=b1;generalize (y==([]:Str))=b4;generalize DC l=b2;generalize l.contains x=b3;generalize l.contains y=b5;cases b1<;>cases b2<;>cases b3<;>cases b4<;>cases b5<;>rfl
def mM {l:List Str} (h:DC (l.take i)=true):DC l=true:=by
 rw [<- A7 i l];generalize l.drop i=m;generalize l.take i=k at h
 induction m generalizing k with
 |nil=>simpa using h
 |cons x m ih=>
  rw [show k++x::m=(k++[x])++m by simp];exact ih (k++[x]) (by rw [Yr,h];rfl)
def ASU {l:List Str} (h:i<=l.length):AI5 (l.map BX) none (some (.d (.int .i64 (i:Int)))) none 1=some (.d (.sl ((l.take i).map BX))):=by
 simp [AI5,mV,Zu,h,List.map_take]
def R8 (l:List Str) (Y:AH):AR Tzp 128 [.d (.sl (l.map BX))] Y (fun v σ'=>v= .d (.bool (DC l))/\σ'=Y):=by
 refine jU (by simp) ?_;rw [Bj];refine Run.slot 0 (fun hb0=>?_);simp only [DR,if_true,AV.Ev,AA] at hb0;(repeat' (refine wQ ?_<;>try simp only [AA,go_sem]));refine Run.BB ?_;refine Run.BE ((fun (a0:AV) (a5:AV) (a6:AV)=>fun (i:Nat)=>put 0 a0 (put 5 a5 (put 6 a6 (put 7 (.d (.int .i64 i)) U)))) _ _ _) (fun _=>E) (fun _=>Y) (fun i=>i<=l.length/\DC (l.take i)=false) (fun i=>l.length - i) ?_ 0 ⟨by simp,by simp [DC]⟩;rintro i ⟨hi,hno⟩ ih;by_cases hlt:i < l.length
 . obtain ⟨x,Z⟩:=Ai hlt;have he:=BI (enc:=BX) Z;simp only [BX] at he;have hw1:=wsu i;have hs:=ASU hi;have hsn:=Yr (l.take i) x;rw [<- A5 Z,hno,Ep] at hsn;cases h0:(x==[]) with
   |true=>
    rw [h0] at hsn;(repeat' (refine wQ ?_<;>try simp only [Ap hlt,he,hw1,F1,h0,go_sem]));exact ih (i+1) ⟨by omega,by simpa using hsn⟩ (by omega)
   |false=>
    rw [h0] at hsn;have hc:=bH (l.take i) x Y;cases hct:(l.take i).contains x with
    |true=>
     rw [hct] at hc hsn;(repeat' ((first|refine wP ?_|refine AI.det (hc) ?_|fail)<;>try simp only [Ap hlt,he,F1,h0,hs,go_sem]));rw [mM (i:=i+1) (by simpa using hsn)]
    |false=>
     rw [hct] at hc hsn;(repeat' ((first|refine wQ ?_|refine AI.det (hc) ?_|fail)<;>try simp only [Ap hlt,he,hw1,F1,h0,hs,go_sem]));exact ih (i+1) ⟨by omega,by simpa using hsn⟩ (by omega)
 . (repeat' (refine wP ?_<;>try simp only [B7 hlt,go_sem]));rw [AP (by omega)] at hno;rw [hno]
def Ip {S X:Type} (vis:S->X->Int×S):List X->S->Option (Nat×Int)×S
 |[],s=>(none,s)
 |x::l,s=>if (vis s x).1=0 then (((Ip vis l (vis s x).2).1.map fun y=>(y.1+1,y.2)),(Ip vis l (vis s x).2).2) else (some (0,(vis s x).1),(vis s x).2)
def tM {S X:Type} {vis:S->X->Int×S}:∀(l m:List X) (s s':S),Ip vis l s=(none,s')->Ip vis (l++m) s=(((Ip vis m s').1.map fun y=>(y.1+l.length,y.2)),(Ip vis m s').2)
 |[],m,s,s',h=>by
  simp only [Ip,BZ,true_and] at h;subst h;simp
 |x::l,m,s,s',h=>by
  simp only [Ip] at h;split at h
  . rename_i h0;simp only [BZ,Option.map_eq_none_iff] at h;have:=tM l m (vis s x).2 s' (Prod.ext h.1 h.2);rw [AX,Ip,if_pos h0,this];simp only [Option.map_map,A0,BZ,and_true];congr 1
  . simp at h
def yX {S X:Type} {vis:S->X->Int×S}:∀(l m:List X) (s s':S) (r:Nat×Int),Ip vis l s=(some r,s')->Ip vis (l++m) s=(some r,s')
 |[],m,s,s',r,h=>by simp [Ip] at h
 |x::l,m,s,s',r,h=>by
  simp only [Ip] at h;split at h
  . rename_i h0;simp only [BZ,AK] at h;obtain ⟨⟨y,hy,rfl⟩,h2⟩:=h;have:=yX l m (vis s x).2 s' y (Prod.ext hy h2);rw [AX,Ip,if_pos h0,this];rfl
  . rename_i h0;rw [AX,Ip,if_neg h0];exact h
def pH {S X:Type} {vis:S->X->Int×S}:∀(l:List X) (s s':S) (r:Nat×Int),Ip vis l s=(some r,s')->r.2≠0
 |[],s,s',r,h=>by simp [Ip] at h
 |x::l,s,s',r,h=>by
  simp only [Ip] at h;split at h
  . simp only [BZ,AK] at h;obtain ⟨⟨y,hy,rfl⟩,h2⟩:=h;exact pH l (vis s x).2 s' y (Prod.ext hy h2)
  . rename_i h0;simp only [BZ,AM] at h;rw [<- h.1];exact h0
def dI (o:Int) (n:Str) (ns sc:List Str) (k:Ex):∀(l:List Ex) (i:Nat),Cr o n ns sc i (l++[k])=Cr o n ns sc i l++Ca k (Qg o n ns sc (i+l.length))
 |[],i=>by simp [Cr]
 |x::l,i=>by
  rw [AX,Cr,Cr,dI o n ns sc k l (i+1),Aq,A0,show i+1+l.length=i+(l.length+1) by omega]
def yT (o:Int) (n:Str) (ns sc:List Str) (m:List Ex):∀(l:List Ex) (i:Nat),Cr o n ns sc i (l++m)=Cr o n ns sc i l++Cr o n ns sc (i+l.length) m
 |[],i=>by simp [Cr]
 |x::l,i=>by
  rw [AX,Cr,Cr,yT o n ns sc m l (i+1),Aq,A0,show i+1+l.length=i+(l.length+1) by omega]
def ZN (sc:List Str) (m:List Al):∀l:List Al,Ed sc (l++m)=Ed sc l++Ed sc m
 |[]=>by simp [Ed]
 |x::l=>by rw [AX,Ed,Ed,ZN sc m l,Aq]
mutual
def Pt:∀(e:Ex) (sc:List Str),(Ca e sc).length=e.size
 | .mk o n u ns ks al,sc=>by rw [Ca,A0,AY,MW o n ns sc 0 ks,Tz sc al,Ex.size];omega
def MW (o:Int) (n:Str) (ns sc:List Str):∀(i:Nat) (l:List Ex),(Cr o n ns sc i l).length=Ex.AQ l
 |_,[]=>by simp [Cr,Ex.AQ]
 |i,k::l=>by rw [Cr,AY,Pt k _,MW o n ns sc (i+1) l,Ex.AQ]
def AR9:∀(a:Al) (sc:List Str),(oH a sc).length=a.size
 | .mk c vs b,sc=>by rw [oH,Pt b _,Al.size]
def Tz (sc:List Str):∀l:List Al,(Ed sc l).length=Al.AQ l
 |[]=>by simp [Ed,Al.AQ]
 |a::l=>by rw [Ed,AY,AR9 a sc,Tz sc l,Al.AQ]
end
section
variable {S:Type} (vis:S->Ex×List Str->Int×S) (hS:S->AH) (j:Nat) (fv:AV)
def WH (n:Nat) (s:S):AH:=(hS s).AL j [.d (.int .i64 n),fv]
def WQ (l:List (Ex×List Str)) (n:Nat) (s:S) (v:AV) (σ':AH):Prop:=
 match Ip vis l s with
 |(none,s')=>v= .d (.int .i64 0)/\σ'=WH hS j fv (n+l.length - 1) s'
 |(some (k,c),s')=>c≠0/\v= .d (.int .i64 c)/\σ'=WH hS j fv (n+k) s'
def AJR (fid:FuncId) (first caps:List AV) (l:List (Ex×List Str)):Prop:=
 ∀x∈l,∀(s:S) (n:Nat),AR Tzp fid (first++[exA x.1,.d (bdL x.2)]++caps) (WH hS j fv n s) (fun v σ'=>v= .d (.int .i64 (vis s x).1)/\σ'=WH hS j fv n (vis s x).2)
end
def AQ1 (o:Int) (n:Str) (ns sc:List Str) (i:Nat):bdL (Qg o n ns sc i)=bdL (if (o=7\/o=17)/\i=1 then sc++[n] else if (o=8/\i=1)\/o=11 then sc++ns else sc):=by
 unfold Qg;split
 . split
   . rename_i h;rw [pX _ _ (by simp [h])]
   . rfl
 . rfl
def AWJ {S:Type} (vis:S->Ex×List Str->Int×S) (hS:S->AH) (j:Nat) (fid:FuncId) (first caps:List AV) (hb:CT Tzp fid=true) (hfi:first.all AV.BS=true) (hca:caps.all AV.BS=true):
 ∀(N:Nat) (e:Ex) (sc:List Str) (n:Nat) (s:S),e.size<=N->n+e.size<=1000000000->AJR vis hS j (.fn fid first caps) fid first caps (Ca e sc)->
 AR Tzp 211 [.gp j 0,exA e,.d (bdL sc)] (WH hS j (.fn fid first caps) n s) (WQ vis hS j (.fn fid first caps) (Ca e sc) n s):=by
 intro N
 induction N with
 |zero=>intro e sc n s h;have:=Ex.size_pos e;omega
 |succ N ihN=>
 intro e sc n s hN hsz hvis;have hcall:=hvis (e,sc) (by cases e;rw [Ca];exact AW ..) s n;obtain ⟨o,nm,u,ns,ks,al⟩:=e;simp only [Ex.size] at hN hsz;have hkl:=Ex.Bx ks;have hal:=Al.Bx al;refine Zk (by simp) ?_;rw [DK,exA,Ex.A4];simp only [exA,Ex.A4,AF,AN] at hcall;generalize hV:WQ vis hS j (.fn fid first caps) (Ca (.mk o nm u ns ks al) sc) n s=V
 have hnl:(first++[AV.agg [.d (.int .i64 o),.d (.str nm),.d (.int .i64 u),.d (.sl (ns.map BX)),.d (.sl (ks.map Ex.enc)),.d (.sl (al.map Al.enc))],.d (bdL sc)]++caps).all AV.BS=true:=by
  simp [hfi,hca,MR,Dm]
 have hblk:∀n s,(WH hS j (.fn fid first caps) n s).blk j=some [.d (.int .i64 n),.fn fid first caps]:=fun n s=>by simp only [WH,AJ,if_true]
 cases hv:decide ((vis s (.mk o nm u ns ks al,sc)).1=0) with
 |false=>
  have hv':(vis s (.mk o nm u ns ks al,sc)).1≠0:=by simpa using hv
  have hne:((vis s (.mk o nm u ns ks al,sc)).1 != 0)=true:=by simpa using hv'
  (repeat' ((first|refine wR ?_|(refine ⟨fid,first,caps,rfl,hb,AI.mk hnl hcall ?_⟩;rintro _ _ ⟨rfl,rfl⟩)|fail)<;>try simp only [hblk,hne,go_sem]));rw [<- hV,WQ,Ca,Ip,if_neg hv'];exact ⟨hv',rfl,rfl⟩
 |true=>
 have hv':(vis s (.mk o nm u ns ks al,sc)).1=0:=by simpa using hv
 have hne:((vis s (.mk o nm u ns ks al,sc)).1 != 0)=false:=by simp [hv']
 (repeat' ((first|refine wQ ?_|(refine ⟨fid,first,caps,rfl,hb,AI.mk hnl hcall ?_⟩;rintro _ _ ⟨rfl,rfl⟩)|fail)<;>try simp only [hblk,hne,AA,go_sem]));have hr0:Ip vis [((.mk o nm u ns ks al:Ex),sc)] s=(none,(vis s (.mk o nm u ns ks al,sc)).2):=by simp [Ip,hv']
 generalize (vis s (.mk o nm u ns ks al,sc)).2=s0 at hr0 ⊢;clear hcall hnl hv hv' hne
 have hfail:∀(l m:List (Ex×List Str)) (k:Nat) (c:Int) (s':S),Ca (.mk o nm u ns ks al) sc=l++m->c≠0->Ip vis l s=(some (k,c),s')->V (.d (.int .i64 c)) (WH hS j (.fn fid first caps) (n+k) s'):=fun l m k c s' he hc hr=>by
  rw [<- hV,WQ,he,yX l m s s' (k,c) hr];exact ⟨hc,rfl,rfl⟩
 have hpre:Ca (.mk o nm u ns ks al) sc=((.mk o nm u ns ks al:Ex),sc)::(Cr o nm ns sc 0 ks++Ed sc al):=by rw [Ca]
 refine Run.BB ?_
 refine Run.BE ((fun (a0:AV) (a2:AV) (a4:AV) (a26:AV) (a27:AV)=>fun (y:Nat×S)=>put 0 a0 (put 2 a2 (put 4 a4 (put 26 a26 (put 27 a27 (put 28 (.d (.int .i64 y.1)) U)))))) _ _ _ _ _) (fun _=>At 4 [.d (.int .i64 o),.d (.str nm),.d (.int .i64 u),.d (.sl (ns.map BX)),.d (.sl (ks.map Ex.enc)),.d (.sl (al.map Al.enc))] E) (fun y=>WH hS j (.fn fid first caps) (n+Ex.AQ (ks.take y.1)) y.2)
  (fun y=>y.1<=ks.length/\Ip vis (((.mk o nm u ns ks al:Ex),sc)::Cr o nm ns sc 0 (ks.take y.1)) s=(none,y.2)) (fun y=>ks.length - y.1) ?_ (0,s0) ⟨by simp,by simpa [Cr] using hr0⟩
 rintro ⟨i,t⟩ ⟨hi,hok⟩ ih;simp only at hi hok;by_cases hlt:i < ks.length
 . obtain ⟨x,Z⟩:=Ai hlt;have he:=BI (enc:=Ex.enc) Z;have hw1:=wsu i;have hxs:=Ex.Im (AD Z)
   have hsum:Ex.AQ (ks.take i)+x.size+Ex.AQ (ks.drop (i+1))=Ex.AQ ks:=by
    conv=>rhs;rw [<- A7 i ks,Ex.Bn,By Z,Ex.AQ]
    omega
   have hst:Ex.AQ (ks.take (i+1))=Ex.AQ (ks.take i)+x.size:=by rw [A5 Z,Ex.Bn];simp [Ex.AQ]
   have hwn:IntKind.i64.wrap (((n+Ex.AQ (ks.take i):Nat):Int)+1)=((n+Ex.AQ (ks.take i)+1:Nat):Int):=lN (by omega)
   have hks:Cr o nm ns sc 0 (ks.take (i+1))=Cr o nm ns sc 0 (ks.take i)++Ca x (Qg o nm ns sc i):=by
    rw [A5 Z,dI,B5,FN (by omega),BF]
   have hall:Ca (.mk o nm u ns ks al) sc=(((.mk o nm u ns ks al:Ex),sc)::Cr o nm ns sc 0 (ks.take (i+1)))++(Cr o nm ns sc (i+1) (ks.drop (i+1))++Ed sc al):=by
    rw [hpre,AX,<- Aq];congr 2
    conv=>lhs;rw [<- A7 (i+1) ks,yT,B5,FN (by omega),BF]
   have hlen:(((.mk o nm u ns ks al:Ex),sc)::Cr o nm ns sc 0 (ks.take i)).length=1+Ex.AQ (ks.take i):=by
    rw [A0,MW];omega
   have happ:=tM (vis:=vis) _ (Ca x (Qg o nm ns sc i)) s t hok;rw [AX,<- hks,hlen] at happ
   have hvx:AJR vis hS j (.fn fid first caps) fid first caps (Ca x (Qg o nm ns sc i)):=fun y hy=>hvis y (by
    rw [hall,AZ,Az,hks,AZ];exact .inl (.inr (.inr hy)))
   have hc:=ihN x (Qg o nm ns sc i) (n+Ex.AQ (ks.take i)+1) t (by omega) (by omega) hvx;have hbd:=AQ1 o nm ns sc i;generalize hsi:Qg o nm ns sc i=sci at hc happ hbd hvx hks;have hset:∀m:Nat,(WH hS j (.fn fid first caps) (n+Ex.AQ (ks.take i)) t).AL j [.d (.int .i64 (m:Int)),.fn fid first caps]=WH hS j (.fn fid first caps) m t:=fun m=>by simp only [WH,Dr]
   rcases hrx:Ip vis (Ca x sci) t with ⟨_|⟨k,c⟩,t'⟩
   . have hc:AR Tzp 211 [.gp j 0,exA x,.d (bdL sci)] (WH hS j (.fn fid first caps) (n+Ex.AQ (ks.take i)+1) t) (fun v σ'=>v= .d (.int .i64 0)/\σ'=WH hS j (.fn fid first caps) (n+Ex.AQ (ks.take (i+1))) t'):=hc.mono (by
      intro v σ' h;simp only [WQ,hrx] at h;rw [Pt] at h;obtain ⟨rfl,rfl⟩:=h;have:=Ex.size_pos x;refine ⟨rfl,?_⟩;congr 1;omega)
     rw [hrx] at happ;simp only [Option.map_none] at happ;obtain ⟨xo,xn,xu,xs,xk,xa⟩:=x;simp only [Ex.A4,exA,AF,AN] at he hc;(repeat' (first|refine Run.cb rfl ?_|((first|refine rgQ mxQ ?_|refine cdQ ?_)<;>try simp only [Ap hlt,go_sem])|fail));refine Run.block ?_;(repeat' (first|refine Run.cb rfl ?_|((first|refine rgQ mxQ ?_|refine cdQ ?_)<;>try simp only [he,go_sem])|fail));refine Run.AH7 (α:=Unit) [0,2,4,9,10,26,27,28] (fun _=>put 0 (.gp j 0) (put 2 (.d (bdL sc)) (put 4 (.lp 4 0) (put 9 (.lp 9 0) (put 10 (.d (bdL sci)) (put 26 (.d (.sl (ks.map Ex.enc))) (put 27 (.d (.int .i64 ks.length)) (put 28 (.d (.int .i64 i)) U)))))))) (At 4 [.d (.int .i64 o),.d (.str nm),.d (.int .i64 u),.d (.sl (ns.map BX)),.d (.sl (ks.map Ex.enc)),.d (.sl (al.map Al.enc))] (At 9 [.d (.int .i64 xo),.d (.str xn),.d (.int .i64 xu),.d (.sl (xs.map BX)),.d (.sl (xk.map Ex.enc)),.d (.sl (xa.map Al.enc))] E)) (WH hS j (.fn fid first caps) (n+Ex.AQ (ks.take i)) t) (fun _=>True) ?_ ?_
     . rintro ⟨⟩ _;(repeat' (first|((first|refine wQ ?_|(refine AI.mk rfl hc ?_;rintro _ _ ⟨rfl,rfl⟩)|fail)<;>try simp only [hblk,hwn,hset,hw1,go_sem])|(refine ⟨fun h=>?_,fun h=>?_⟩<;>first|(cases h;done)|try simp only [h])|fail));exact ih (i+1,t') ⟨by simp only;omega,happ⟩ (by simp only;omega)
     . intro hrest;clear hc;have hwi:((i:Int)==1)=decide (i=1):=by rw [Ak];simp only [beq_iff_eq,decide_eq_true_eq];omega
       have hws1:=ZR sc ns (WH hS j (.fn fid first caps) (n+Ex.AQ (ks.take i)) t);have hws2:=ZR sc [nm] (WH hS j (.fn fid first caps) (n+Ex.AQ (ks.take i)) t);simp only [AF,AN,BX] at hws2;have key:=fun (F':Fm) (L':Lm) h1 h2=>hrest F' L' () h1 h2 trivial;clear hrest;by_cases h11:o=11
       . subst h11;rw [if_neg (by omega),if_pos (.inr rfl)] at hbd;rw [<- hbd] at hws1;(repeat' (first|(refine key _ _ (by simp only [go_sem]) (by simp only [go_sem]))|refine ctQ rfl ?_|((first|refine rgQ mxQ ?_|refine cdQ ?_|refine AI.det (hws1) ?_)<;>try simp only [go_sem])|fail))
       by_cases h8:o=8/\i=1
       . obtain ⟨rfl,rfl⟩:=h8;rw [if_neg (by omega),if_pos (.inl ⟨rfl,rfl⟩)] at hbd;rw [<- hbd] at hws1;(repeat' (first|(refine key _ _ (by simp only [go_sem]) (by simp only [go_sem]))|refine ctQ rfl ?_|((first|refine rgQ mxQ ?_|refine cdQ ?_|refine AI.det (hws1) ?_)<;>try simp only [Aa,hwi,go_sem])|fail))
       by_cases h7:(o=7\/o=17)/\i=1
       . rw [if_pos h7] at hbd;rw [<- hbd] at hws2;obtain ⟨h7,rfl⟩:=h7;rcases h7 with rfl|rfl
         all_goals (repeat' (first|(refine key _ _ (by simp only [go_sem]) (by simp only [go_sem]))|refine ctQ rfl ?_|((first|refine rgQ mxQ ?_|refine cdQ ?_|refine AI.det (hws2) ?_)<;>try simp only [Aa,hwi,go_sem])|fail))
       . rw [if_neg h7,if_neg (by omega)] at hbd
         have hA:(o==8&&decide (i=1))=false:=by
          rw [CX];intro h;exact h8 (by simpa using h)
         have hB:((o==7||o==17)&&decide (i=1))=false:=by
          rw [CX];intro h;exact h7 (by simpa using h)
         (repeat' (first|(refine key _ _ (by simp only [go_sem,hbd]) (by simp only [go_sem]))|refine ctQ rfl ?_|(refine QJ (by first|exact GV.t|exact GV.f|exact GV.st|exact GV.sf) ⟨?_,fun h=>?_,?_⟩;rotate_left;(focus ((try simp only [AO,N6] at h);simp only [go_sem];first|exact Is.mk|exact Is.pv (by simp only [h,UM,hwi,go_sem];rfl)));(try simp only [↓LA,↓WB,hA,hB,go_sem]))|((first|refine rgQ mxQ ?_|refine cdQ ?_)<;>try simp only [Cf h11,go_sem])|fail))
   . have hc:AR Tzp 211 [.gp j 0,exA x,.d (bdL sci)] (WH hS j (.fn fid first caps) (n+Ex.AQ (ks.take i)+1) t) (fun v σ'=>v= .d (.int .i64 c)/\σ'=WH hS j (.fn fid first caps) (n+(k+(1+Ex.AQ (ks.take i)))) t'/\c≠0):=hc.mono (by
      intro v σ' h;simp only [WQ,hrx] at h;obtain ⟨hc0,rfl,rfl⟩:=h;refine ⟨rfl,?_,hc0⟩;congr 1;omega)
     rw [hrx] at happ;simp only [Ac] at happ;have hc0:c≠0:=pH _ _ _ _ hrx;have hne:(c != 0)=true:=by simpa using hc0
     obtain ⟨xo,xn,xu,xs,xk,xa⟩:=x;simp only [Ex.A4,exA,AF,AN] at he hc;(repeat' (first|refine Run.cb rfl ?_|((first|refine rgQ mxQ ?_|refine cdQ ?_)<;>try simp only [Ap hlt,go_sem])|fail));refine Run.block ?_;(repeat' (first|refine Run.cb rfl ?_|((first|refine rgQ mxQ ?_|refine cdQ ?_)<;>try simp only [he,go_sem])|fail));refine Run.AH7 (α:=Unit) [0,2,4,9,10,26,27,28] (fun _=>put 0 (.gp j 0) (put 2 (.d (bdL sc)) (put 4 (.lp 4 0) (put 9 (.lp 9 0) (put 10 (.d (bdL sci)) (put 26 (.d (.sl (ks.map Ex.enc))) (put 27 (.d (.int .i64 ks.length)) (put 28 (.d (.int .i64 i)) U)))))))) (At 4 [.d (.int .i64 o),.d (.str nm),.d (.int .i64 u),.d (.sl (ns.map BX)),.d (.sl (ks.map Ex.enc)),.d (.sl (al.map Al.enc))] (At 9 [.d (.int .i64 xo),.d (.str xn),.d (.int .i64 xu),.d (.sl (xs.map BX)),.d (.sl (xk.map Ex.enc)),.d (.sl (xa.map Al.enc))] E)) (WH hS j (.fn fid first caps) (n+Ex.AQ (ks.take i)) t) (fun _=>True) ?_ ?_
     . rintro ⟨⟩ _;(repeat' ((first|refine wR ?_|(refine AI.mk rfl hc ?_;rintro _ _ ⟨rfl,rfl,_⟩)|fail)<;>try simp only [hblk,hwn,hset,hne,go_sem]));exact hfail _ _ _ _ _ hall hc0 happ
     . intro hrest;clear hc;have hwi:((i:Int)==1)=decide (i=1):=by rw [Ak];simp only [beq_iff_eq,decide_eq_true_eq];omega
       have hws1:=ZR sc ns (WH hS j (.fn fid first caps) (n+Ex.AQ (ks.take i)) t);have hws2:=ZR sc [nm] (WH hS j (.fn fid first caps) (n+Ex.AQ (ks.take i)) t);simp only [AF,AN,BX] at hws2;have key:=fun (F':Fm) (L':Lm) h1 h2=>hrest F' L' () h1 h2 trivial;clear hrest;by_cases h11:o=11
       . subst h11;rw [if_neg (by omega),if_pos (.inr rfl)] at hbd;rw [<- hbd] at hws1;(repeat' (first|(refine key _ _ (by simp only [go_sem]) (by simp only [go_sem]))|refine ctQ rfl ?_|((first|refine rgQ mxQ ?_|refine cdQ ?_|refine AI.det (hws1) ?_)<;>try simp only [go_sem])|fail))
       by_cases h8:o=8/\i=1
       . obtain ⟨rfl,rfl⟩:=h8;rw [if_neg (by omega),if_pos (.inl ⟨rfl,rfl⟩)] at hbd;rw [<- hbd] at hws1;(repeat' (first|(refine key _ _ (by simp only [go_sem]) (by simp only [go_sem]))|refine ctQ rfl ?_|((first|refine rgQ mxQ ?_|refine cdQ ?_|refine AI.det (hws1) ?_)<;>try simp only [Aa,hwi,go_sem])|fail))
       by_cases h7:(o=7\/o=17)/\i=1
       . rw [if_pos h7] at hbd;rw [<- hbd] at hws2;obtain ⟨h7,rfl⟩:=h7;rcases h7 with rfl|rfl
         all_goals (repeat' (first|(refine key _ _ (by simp only [go_sem]) (by simp only [go_sem]))|refine ctQ rfl ?_|((first|refine rgQ mxQ ?_|refine cdQ ?_|refine AI.det (hws2) ?_)<;>try simp only [Aa,hwi,go_sem])|fail))
       . rw [if_neg h7,if_neg (by omega)] at hbd
         have hA:(o==8&&decide (i=1))=false:=by
          rw [CX];intro h;exact h8 (by simpa using h)
         have hB:((o==7||o==17)&&decide (i=1))=false:=by
          rw [CX];intro h;exact h7 (by simpa using h)
         (repeat' (first|(refine key _ _ (by simp only [go_sem,hbd]) (by simp only [go_sem]))|refine ctQ rfl ?_|(refine QJ (by first|exact GV.t|exact GV.f|exact GV.st|exact GV.sf) ⟨?_,fun h=>?_,?_⟩;rotate_left;(focus ((try simp only [AO,N6] at h);simp only [go_sem];first|exact Is.mk|exact Is.pv (by simp only [h,UM,hwi,go_sem];rfl)));(try simp only [↓LA,↓WB,hA,hB,go_sem]))|((first|refine rgQ mxQ ?_|refine cdQ ?_)<;>try simp only [Cf h11,go_sem])|fail))
 . have hik:ks.take i=ks:=AP (by omega);rw [hik] at hok;clear ih;(repeat' (refine wQ ?_<;>try simp only [B7 hlt,AA,hik,go_sem]));refine Run.BB ?_
   refine Run.BE ((fun (a0:AV) (a2:AV) (a83:AV) (a84:AV)=>fun (y:Nat×S)=>put 0 a0 (put 2 a2 (put 83 a83 (put 84 a84 (put 85 (.d (.int .i64 y.1)) U))))) _ _ _ _) (fun _=>E) (fun y=>WH hS j (.fn fid first caps) (n+Ex.AQ ks+Al.AQ (al.take y.1)) y.2)
    (fun y=>y.1<=al.length/\Ip vis (((.mk o nm u ns ks al:Ex),sc)::(Cr o nm ns sc 0 ks++Ed sc (al.take y.1))) s=(none,y.2)) (fun y=>al.length - y.1) ?_ (0,t) ⟨by simp,by simpa [Ed] using hok⟩
   clear hok hi hlt hik;rintro ⟨i,t⟩ ⟨hi,hok⟩ ih;simp only at hi hok;by_cases hlt:i < al.length
   . obtain ⟨a,Z⟩:=Ai hlt;have he:=BI (enc:=Al.enc) Z;have hw1:=wsu i;have hxs:=Al.Im (AD Z)
     have hsum:Al.AQ (al.take i)+a.size+Al.AQ (al.drop (i+1))=Al.AQ al:=by
      conv=>rhs;rw [<- A7 i al,Al.Bn,By Z,Al.AQ]
      omega
     have hst:Al.AQ (al.take (i+1))=Al.AQ (al.take i)+a.size:=by rw [A5 Z,Al.Bn];simp [Al.AQ]
     have hwn:IntKind.i64.wrap (((n+Ex.AQ ks+Al.AQ (al.take i):Nat):Int)+1)=((n+Ex.AQ ks+Al.AQ (al.take i)+1:Nat):Int):=lN (by omega)
     have hks:Ed sc (al.take (i+1))=Ed sc (al.take i)++oH a sc:=by
      rw [A5 Z,ZN];simp [Ed]
     have hall:Ca (.mk o nm u ns ks al) sc=(((.mk o nm u ns ks al:Ex),sc)::(Cr o nm ns sc 0 ks++Ed sc (al.take (i+1))))++Ed sc (al.drop (i+1)):=by
      rw [hpre,AX,Aq,<- ZN,A7]
     have hlen:(((.mk o nm u ns ks al:Ex),sc)::(Cr o nm ns sc 0 ks++Ed sc (al.take i))).length=1+Ex.AQ ks+Al.AQ (al.take i):=by
      rw [A0,AY,MW,Tz];omega
     have happ:=tM (vis:=vis) _ (oH a sc) s t hok;rw [AX,Aq,<- hks,hlen] at happ;obtain ⟨ac,av,x⟩:=a;rw [oH] at happ hks;simp only [Al.size] at hxs hst hsum
     have hvx:AJR vis hS j (.fn fid first caps) fid first caps (Ca x (sc++av)):=fun y hy=>hvis y (by
      rw [hall,AZ,Az,AZ,hks,AZ];exact .inl (.inr (.inr (.inr hy))))
     have hc:=ihN x (sc++av) (n+Ex.AQ ks+Al.AQ (al.take i)+1) t (by omega) (by omega) hvx;have hws:=ZR sc av;generalize sc++av=sci at hc happ hvx hks hws;have hset:∀m:Nat,(WH hS j (.fn fid first caps) (n+Ex.AQ ks+Al.AQ (al.take i)) t).AL j [.d (.int .i64 (m:Int)),.fn fid first caps]=WH hS j (.fn fid first caps) m t:=fun m=>by simp only [WH,Dr]
     rcases hrx:Ip vis (Ca x sci) t with ⟨_|⟨k,c⟩,t'⟩
     . have hc:AR Tzp 211 [.gp j 0,exA x,.d (bdL sci)] (WH hS j (.fn fid first caps) (n+Ex.AQ ks+Al.AQ (al.take i)+1) t) (fun v σ'=>v= .d (.int .i64 0)/\σ'=WH hS j (.fn fid first caps) (n+Ex.AQ ks+Al.AQ (al.take (i+1))) t'):=hc.mono (by
        intro v σ' h;simp only [WQ,hrx] at h;rw [Pt] at h;obtain ⟨rfl,rfl⟩:=h;have:=Ex.size_pos x;refine ⟨rfl,?_⟩;congr 1;omega)
       rw [hrx] at happ;simp only [Option.map_none] at happ;obtain ⟨xo,xn,xu,xs,xk,xa⟩:=x;simp only [Al.A4,Ex.A4,exA,AF,AN] at he hc;(repeat' (first|((first|refine wQ ?_|(refine AI.mk rfl hc ?_;rintro _ _ ⟨rfl,rfl⟩)|refine AI.det (hws _) ?_|fail)<;>try simp only [Ap hlt,he,hblk,hwn,hset,hw1,go_sem])|(refine ⟨fun h=>?_,fun h=>?_⟩<;>first|(cases h;done)|try simp only [h])|fail));exact ih (i+1,t') ⟨by simp only;omega,happ⟩ (by simp only;omega)
     . have hc:AR Tzp 211 [.gp j 0,exA x,.d (bdL sci)] (WH hS j (.fn fid first caps) (n+Ex.AQ ks+Al.AQ (al.take i)+1) t) (fun v σ'=>v= .d (.int .i64 c)/\σ'=WH hS j (.fn fid first caps) (n+(k+(1+Ex.AQ ks+Al.AQ (al.take i)))) t'/\c≠0):=hc.mono (by
        intro v σ' h;simp only [WQ,hrx] at h;obtain ⟨hc0,rfl,rfl⟩:=h;refine ⟨rfl,?_,hc0⟩;congr 1;omega)
       rw [hrx] at happ;simp only [Ac] at happ;have hc0:c≠0:=pH _ _ _ _ hrx;have hne:(c != 0)=true:=by simpa using hc0
       obtain ⟨xo,xn,xu,xs,xk,xa⟩:=x;simp only [Al.A4,Ex.A4,exA,AF,AN] at he hc;(repeat' ((first|refine wR ?_|(refine AI.mk rfl hc ?_;rintro _ _ ⟨rfl,rfl,_⟩)|refine AI.det (hws _) ?_|fail)<;>try simp only [Ap hlt,he,hblk,hwn,hset,hne,go_sem]));exact hfail _ _ _ _ _ hall hc0 happ
   . rw [AP (by omega)] at hok;have hia:al.take i=al:=AP (by omega);(repeat' (refine wR ?_<;>try simp only [B7 hlt,go_sem]));rw [<- hV,WQ,hpre,hok,hia];refine ⟨rfl,?_⟩;congr 1;rw [A0,AY,MW,Tz];omega
def Lx (l:List Con) (s:Str):l.findIdx? (fun c=>c.name==s)=JC l s:=by
 induction l with
 |nil=>rfl
 |cons x l ih=>
  rw [List.findIdx?_cons,JC];split
  . rfl
  . rw [ih]
def iW (s:Str):∀(l m:List Dat),(∀d∈l,JC d.cons s=none)->El (l++m) s=(El m s).map fun x=>(x.1+l.length,x.2)
 |[],m,_=>by simp
 |d::l,m,h=>by
  rw [AX,El,h d (AW ..),iW s l m (fun x Z=>h x (AU _ Z))];simp only [Option.map_map,A0];congr 1
def AJV {d:Dat} (h:∀d∈dt.take i,JC d.cons s=none) (hd:dt[i]?=some d) (hk:JC d.cons s=some k):El dt s=some (i,k):=by
 have hi:=(AE.1 hd).1;rw [<- A7 i dt,iW s _ _ h,By hd,El,hk];simp;omega
def AJW (h:∀d∈dt,JC d.cons s=none):El dt s=none:=by
 have:=iW s dt [] h;simpa [El] using this
def AGS {l:List Con} (h:JC l s=some k):∃c,l[k]?=some c/\c.name=s:=by
 rw [<- Lx,AO7] at h;obtain ⟨h1,h2,_⟩:=h;exact ⟨l[k],by simp [h1],by simpa using h2⟩
def ZE {s:Str}:∀ {dt:List Dat} {x:Nat×Nat},El dt s=some x->∃d c,dt[x.1]?=some d/\d.cons[x.2]?=some c/\c.name=s
 |[],x,h=>by simp [El] at h
 |d::l,x,h=>by
  rw [El] at h;split at h
  . rename_i k hk;cases h;obtain ⟨c,hc,hn⟩:=AGS hk;exact ⟨d,c,rfl,hc,hn⟩
  . simp only [AK] at h;obtain ⟨y,hy,rfl⟩:=h;obtain ⟨d',c,h1,h2,h3⟩:=ZE hy;exact ⟨d',c,by simpa using h1,h2,h3⟩
def qN {s:Str} {dt:List Dat} {x:Nat×Nat} {d:Dat} {c:Con} (h1:dt[x.1]?=some d) (h2:d.cons[x.2]?=some c):arity dt x=c.args.length:=by
 simp [arity,h1,h2]
def qM (o:Option (Nat×Nat)):AV:=match o with
 |some x=>.tup [.d (.int .i64 x.1),.d (.int .i64 x.2),.d (.bool true)]
 |none=>.tup [.d (.int .i64 0),.d (.int .i64 0),.d (.bool false)]
def uS (dt:List Dat):Prop:=∀d∈dt,d.cons.length<=1000000
def Ka (dt:List Dat) (hdt:uS dt) (s:Str) (Y:AH):AR Tzp 129 [dsA dt,.d (.str s)] Y (fun v σ'=>v=qM (El dt s)/\σ'=Y):=by
 refine OQ (by simp) ?_;rw [BD,dsA];refine Run.slot 0 (fun hb0=>?_);simp only [DR,if_true,AV.Ev,AA] at hb0;(repeat' (refine wQ ?_<;>try simp only [AA,go_sem]));refine Run.BB ?_;refine Run.BE ((fun (a0:AV) (a1:AV) (a10:AV)=>fun (i:Nat)=>put 0 a0 (put 1 a1 (put 10 a10 (put 11 (.d (.int .i64 i)) U)))) _ _ _) (fun _=>E) (fun _=>Y) (fun i=>i<=dt.length/\∀d∈dt.take i,JC d.cons s=none) (fun i=>dt.length - i) ?_ 0 ⟨by simp,by simp⟩;rintro i ⟨hi,hno⟩ ih;by_cases hlt:i < dt.length
 . obtain ⟨d,hd⟩:=Ai hlt;have he:=Um hd;have hw1:=wsu i;(repeat' (refine wQ ?_<;>try simp only [Ap hlt,he,go_sem]));have hdl:=hdt d (AD hd);have hat:=fun k=>AJV (k:=k) hno hd;rw [<- Lx] at hat;have hnext:=fun (h:JC d.cons s=none)=>F7 (p:=fun d:Dat=>(JC d.cons s).isSome) (i:=i) (fun y hy=>by simp [hno y hy]) hd (by rw [h];rfl);obtain ⟨dn,dv,cs⟩:=d;simp only [AA] at *;(repeat' (refine wQ ?_<;>try simp only [AA,go_sem]));refine Run.BB ?_;refine Run.BE ((fun (a0:AV) (a1:AV) (a7:AV) (a10:AV) (a11:AV) (a19:AV)=>fun (k:Nat)=>put 0 a0 (put 1 a1 (put 7 a7 (put 10 a10 (put 11 a11 (put 19 a19 (put 20 (.d (.int .i64 k)) U))))))) _ _ _ _ _ _) (fun _=>E) (fun _=>Y) (fun k=>k<=cs.length/\∀c∈cs.take k,(c.name==s)=false) (fun k=>cs.length - k) ?_ 0 ⟨by simp,by simp⟩;rintro k ⟨hk,hnk⟩ ih2;by_cases hkl:k < cs.length
   . obtain ⟨c,hc⟩:=Ai hkl;have hec:=ZB hc;have hwk:=wsu k;cases hs:(c.name==s) with
     |true=>
      (repeat' (refine wP ?_<;>try simp only [Ap hkl,he,hec,CA,hs,go_sem]));rw [hat k (Dj (p:=fun c:Con=>c.name==s) hnk hc hs)];rfl
     |false=>
      (repeat' (refine wQ ?_<;>try simp only [Ap hkl,he,hec,hwk,CA,hs,go_sem]));exact ih2 (k+1) ⟨by omega,F7 (p:=fun c:Con=>c.name==s) hnk hc hs⟩ (by omega)
   . rw [AP (by omega)] at hnk;(repeat' (refine wQ ?_<;>try simp only [B7 hkl,hw1,go_sem]));refine ih (i+1) ⟨by omega,fun y hy=>?_⟩ (by omega);have:=hnext (by rw [<- Lx,Dk (p:=fun c:Con=>c.name==s) hnk]) y hy;simpa using this
 . (repeat' (refine wP ?_<;>try simp only [B7 hlt,go_sem]));rw [AP (by omega)] at hno;rw [AJW hno];rfl
def BP (l:List Bool):List AV:=l.map fun b=>.d (.bool b)
def PJ (l:List Bool):(BP l).length=l.length:=by simp [BP]
def Gl {l:List Bool} {x:Bool} (h:l[k]?=some x):(BP l)[k]?=some (.d (.bool x)):=by simp [BP,h]
def eF {l:List Bool} (x:Bool) (h:k < l.length):wr (BP l) k [.d (.bool x)]=BP (l.set k x):=by
 unfold wr BP;rw [List.map_set,AO8,if_pos (by simpa using h)];simp
def Yz (n:Nat):(AG n [AV.d (.bool false)]).flatten=BP (AG n false):=by
 induction n with
 |zero=>rfl
 |succ n ih=>rw [BV,BW,ih,BV];rfl
def uT (l:List Bool) (b:Bool) (j e:Nat) (Y:AH) (hj:Y.blk j=some (BP l)) (hl:l.length<=1000000000):AR Tzp 289 [.ms j l.length 1 e,.d (.bool b)] Y (fun v σ'=>v= .d (.int .i64 (HQ (l.findIdx? (fun x=>b==x))))/\σ'=Y):=by
 refine OR (by simp) ?_;rw [BD];(repeat' (refine wQ ?_<;>try simp only [go_sem]));refine Run.BB ?_;refine Run.BE ((fun (a0:AV) (a1:AV) (a7:AV)=>fun (i:Nat)=>put 0 a0 (put 1 a1 (put 7 a7 (put 8 (.d (.int .i64 i)) U)))) _ _ _) (fun _=>E) (fun _=>Y) (fun i=>i<=l.length/\∀x∈l.take i,(b==x)=false) (fun i=>l.length - i) ?_ 0 ⟨by simp,by simp⟩;rintro i ⟨hi,hno⟩ ih;by_cases hlt:i < l.length
 . obtain ⟨x,Z⟩:=Ai hlt;have he:=Gl Z;have hix:((i:Int) < (l.length:Int))=True:=by simp;omega
   have hw1:=wsu i;cases hp:(b==x) with
   |true=>
    (repeat' (refine wP ?_<;>try simp only [hix,hj,he,hp,A9,go_sem]));rw [Dj (p:=fun x=>b==x) hno Z hp];rfl
   |false=>
    (repeat' (refine wQ ?_<;>try simp only [hix,hj,he,hw1,hp,A9,go_sem]));exact ih (i+1) ⟨by omega,F7 (p:=fun x=>b==x) hno Z hp⟩ (by omega)
 . (repeat' (refine wP ?_<;>try simp only [B7 hlt,go_sem]));rw [AP (by omega)] at hno;rw [Dk (p:=fun x=>b==x) hno];rfl
def hY (l:List Bool) (b:Bool) (j e:Nat) (Y:AH) (hj:Y.blk j=some (BP l)) (hl:l.length<=1000000000):AR Tzp 258 [.ms j l.length 1 e,.d (.bool b)] Y (fun v σ'=>v= .d (.bool (l.any (fun x=>b==x)))/\σ'=Y):=by
 refine Kt (by simp) ?_;rw [BD];(repeat' ((first|refine wP ?_|refine AI.det (uT l b j e Y hj hl) ?_|fail)<;>try simp only [Ol,HH,go_sem]))
def mP (b:Bool) (Y:AH):AR Tzp 258 [.Ad,.d (.bool b)] Y (fun v σ'=>v= .d (.bool false)/\σ'=Y):=by
 have hi:AR Tzp 289 [.Ad,.d (.bool b)] Y (fun v σ'=>v= .d (.int .i64 (-1))/\σ'=Y):=by
  refine OR (by simp) ?_;rw [BD];have h0:decide ((0:Int) < 0)=false:=by decide
  (repeat' ((first|refine wP ?_|(refine Run.loop ?_)|fail)<;>try simp only [h0,go_sem]))
 refine Kt (by simp) ?_;rw [BD];have h1:decide ((0:Int)<=-1)=false:=by decide
 (repeat' ((first|refine wP ?_|refine AI.det (hi) ?_|fail)<;>try simp only [h1,go_sem]))
def uK {S:Type} (vis:S->Ex×List Str->Int×S) (hS:S->AH) (fid:FuncId) (first caps:List AV) (hb:CT Tzp fid=true) (hfi:first.all AV.BS=true) (hca:caps.all AV.BS=true)
 (f:FE) (s:S) (hsz:f.body.size<=1000000) (hfr:∀t j,(hS s).blk j=none->(hS t).blk j=none) (hvis:∀j,(hS s).blk j=none->AJR vis hS j (.fn fid first caps) fid first caps (Ca f.body f.params)):
 AR Tzp 149 [feA f,.fn fid first caps] (hS s) (fun v σ'=>match Ip vis (Ca f.body f.params) s with
  |(none,s')=>v= .tup [.d (.int .i64 ((f.body.size - 1:Nat):Int)),.d (.int .i64 0)]/\σ'=hS s'
  |(some (k,c),s')=>v= .tup [.d (.int .i64 (k:Nat)),.d (.int .i64 c)]/\σ'=hS s'):=by
 refine nQ (by simp) ?_;rw [BD];have hw:=fun Y=>ZR [] f.params Y;rw [show bdL []= .EO from rfl] at hw;have hw':∀Y,AR Tzp 212 [.EO,.d (.sl (f.params.map BX))] Y (fun v σ'=>v= .d (bdL f.params)/\σ'=Y):=fun Y=>AR.plain (by simpa only [AV.CV,VT,HU,Ag] using hw Y);clear hw;have hwalk:=fun j hj=>AWJ vis hS j fid first caps hb hfi hca _ f.body f.params 0 s (AS _) (by omega) (hvis j hj)
 have hnn:=Pt f.body f.params;have hblk:∀j n s,(WH hS j (.fn fid first caps) n s).blk j=some [.d (.int .i64 n),.fn fid first caps]:=fun j n s=>by simp only [WH,AJ,if_true]
 rcases hr:Ip vis (Ca f.body f.params) s with ⟨_|⟨k,c⟩,s'⟩
 . have hwalk:∀j,(hS s).blk j=none->AR Tzp 211 [.gp j 0,exA f.body,.d (bdL f.params)] (WH hS j (.fn fid first caps) 0 s) (fun v σ'=>v= .d (.int .i64 0)/\σ'=WH hS j (.fn fid first caps) (f.body.size - 1) s'):=fun j hj=>(hwalk j hj).mono (by
    intro v σ' h;simp only [WQ,hr] at h;rw [hnn,BF] at h;exact h)
   obtain ⟨nm,ps,o,n,u,ns,ks,al⟩:=f;simp only [FE.enc,Ex.A4,feA,exA,AF,AN] at hw' hwalk ⊢;(repeat' (refine wQ ?_<;>try simp only [go_sem]));intro j hj;have h0:(hS s).AL j [.d (.int .i64 0),.fn fid first caps]=WH hS j (.fn fid first caps) 0 s:=rfl;rw [h0];have hle:(hS s').le (WH hS j (.fn fid first caps) ((Ex.mk o n u ns ks al).size - 1) s'):=CK (hfr s' j hj);(repeat' ((first|refine wQ ?_|(refine AI.mk rfl (hwalk j hj) ?_;rintro _ _ ⟨rfl,rfl⟩)|(refine Run.Bg Nl hle ?_)|refine AI.det (hw' _) ?_|fail)<;>try simp only [hblk,go_sem]))
 . have hwalk:∀j,(hS s).blk j=none->AR Tzp 211 [.gp j 0,exA f.body,.d (bdL f.params)] (WH hS j (.fn fid first caps) 0 s) (fun v σ'=>v= .d (.int .i64 c)/\σ'=WH hS j (.fn fid first caps) k s'):=fun j hj=>(hwalk j hj).mono (by
    intro v σ' h;simp only [WQ,hr] at h;rw [BF] at h;exact h.2)
   obtain ⟨nm,ps,o,n,u,ns,ks,al⟩:=f;simp only [FE.enc,Ex.A4,feA,exA,AF,AN] at hw' hwalk ⊢;(repeat' (refine wQ ?_<;>try simp only [go_sem]));intro j hj;have h0:(hS s).AL j [.d (.int .i64 0),.fn fid first caps]=WH hS j (.fn fid first caps) 0 s:=rfl;rw [h0];have hle:(hS s').le (WH hS j (.fn fid first caps) k s'):=CK (hfr s' j hj);(repeat' ((first|refine wQ ?_|(refine AI.mk rfl (hwalk j hj) ?_;rintro _ _ ⟨rfl,rfl⟩)|(refine Run.Bg Nl hle ?_)|refine AI.det (hw' _) ?_|fail)<;>try simp only [hblk,go_sem]))
def ZM {α:Type} [DecidableEq α]:∀ {l m:List α},l.Nodup->(∀x∈l,x∈m)->l.length<=m.length
 |[],m,_,_=>by simp
 |x::l,m,hn,hs=>by
  have Z:=hs x (AW ..);have h1:(m.erase x).length=m.length - 1:=List.length_erase_of_mem Z;have h2:=List.length_pos_of_mem Z
  have h3:l.length<=(m.erase x).length:=ZM (ZZ.1 hn).2 (fun y hy=>(List.mem_erase_of_ne (by
   rintro rfl;exact (ZZ.1 hn).1 hy)).2 (hs y (AU _ hy)))
  simp only [A0];omega
def HP:List (Nat×Nat)->Nat
 |[]=>0
 |x::_=>x.1
def flg (xs:List (Nat×Nat)) (f n:Nat):List Bool:=(Av n).map fun q=>xs.contains (f,q)
def exB:List (Nat×Nat)->Bool
 |[]=>true
 |x::l=>(x::l).all (fun y=>y.1==x.1)&&decide (x::l).Nodup
def RX (xs:List (Nat×Nat)) (f n:Nat):(flg xs f n).length=n:=by simp [flg]
def pD (xs:List (Nat×Nat)) {f:Nat} (h:q < n):(flg xs f n)[q]?=some (xs.contains (f,q)):=by simp [flg,h]
def AUU (f n:Nat):flg [] f n=AG n false:=by
 apply Et;intro q;by_cases h:q < n
 . rw [pD _ h];simp [h]
 . rw [BM (by simp [RX];omega),BM (by simp;omega)]
def AQQ {f d:Nat} (h:d≠f\/(f,k)∈xs):flg (xs++[(d,k)]) f n=flg xs f n:=by
 unfold flg;apply FA;intro q _;rw [Ak];simp only [Ar,AZ,A3,BZ];constructor
 . rintro (h1|⟨rfl,rfl⟩)
   . exact h1
   . rcases h with h|h
     . exact absurd rfl h
     . exact h
 . exact .inl
def AJ7 {f:Nat} (hk:k < n):(flg xs f n).set k true=flg (xs++[(f,k)]) f n:=by
 apply Et;intro q;by_cases h:q < n
 . rw [pD _ h,B3];by_cases hq:k=q
   . subst hq;rw [if_pos rfl,if_pos (by rw [RX];exact hk)];congr 1;simp
   . rw [if_neg hq,pD _ h];congr 1;rw [Ak];simp only [Ar,AZ,A3,BZ,true_and];constructor
     . exact .inl
     . rintro (h1|h1)
       . exact h1
       . exact absurd h1.symm hq
 . rw [BM (by simp [RX];omega),BM (by simp [RX];omega)]
def AQD (hne:xs≠[]) (d k:Nat):exB (xs++[(d,k)])=(exB xs&& !(d != HP xs||xs.contains (HP xs,k))):=by
 cases xs with
 |nil=>exact absurd rfl hne
 |cons x l=>
  simp only [AX,exB,HP];rw [Ak];simp only [AO,Aj,beq_iff_eq,decide_eq_true_eq,Br,CY,bne_eq_false_iff_eq];rw [show x::(l++[(d,k)])=(x::l)++[(d,k)] from rfl,G6];constructor
  . rintro ⟨h1,h2,_,h3⟩;have hd:d=x.1:=h1 (d,k) (by simp);refine ⟨⟨fun y hy=>h1 y (by simp only [AZ];exact .inl hy),h2⟩,hd,?_⟩;rw [CX];intro hc;have:=h3 _ (Ar.1 hc) (d,k) (by simp);exact this (by rw [hd])
  . rintro ⟨⟨h1,h2⟩,rfl,h3⟩;refine ⟨fun y hy=>?_,h2,by simp,fun a ha b hb=>?_⟩
    . rcases AZ.1 hy with hy|hy
      . exact h1 y hy
      . simp only [A3] at hy;subst hy;rfl
    . simp only [A3] at hb;subst hb;rintro rfl;rw [Ar.2 ha] at h3;cases h3
def AL5 (hne:xs≠[]) (hk:∀x∈xs,x.1=HP xs->x.2 < NU dt (HP xs)):
 qW dt xs=(exB xs&& !(flg xs (HP xs) (NU dt (HP xs))).any (fun x=>false==x)):=by
 cases xs with
 |nil=>exact absurd rfl hne
 |cons x l=>
  simp only [qW,exB,HP] at hk ⊢;generalize hxs:x::l=xs at hk ⊢;generalize NU dt x.1=n at hk ⊢;rw [Ak];simp only [AO,Aj,beq_iff_eq,decide_eq_true_eq,Br,List.any_eq_false];constructor
  . rintro ⟨⟨h1,h2⟩,h3⟩;refine ⟨⟨h1,h2⟩,fun b hb=>?_⟩;simp only [flg,B8,Bz] at hb;obtain ⟨q,hq,rfl⟩:=hb;intro hc;have hc':¬(x.1,q)∈xs:=fun hm=>by rw [Ar.2 hm] at hc;cases hc
    have:=ZM (m:=((Av n).map fun q=>(x.1,q)).erase (x.1,q)) h2 (fun y hy=>by
     have hy1:=h1 y hy;rw [List.mem_erase_of_ne (by rintro rfl;exact hc' hy)];rw [B8];exact ⟨y.2,by rw [Bz];exact hk y hy hy1,by rw [<- hy1]⟩)
    rw [List.length_erase_of_mem (by rw [B8];exact ⟨q,by simpa using hq,rfl⟩),AA,List.length_range] at this;omega
  . rintro ⟨⟨h1,h2⟩,h3⟩;refine ⟨⟨h1,h2⟩,?_⟩
    have hle:=ZM (m:=(Av n).map fun q=>(x.1,q)) h2 (fun y hy=>by
     rw [B8];exact ⟨y.2,by rw [Bz];exact hk y hy (h1 y hy),by rw [<- h1 y hy]⟩)
    have hge:=ZM (l:=(Av n).map fun q=>(x.1,q)) (m:=xs) (by
     rw [List.nodup_iff_pairwise_ne,List.pairwise_map];exact List.Pairwise.imp (fun h he=>h (Prod.mk.inj he).2) List.nodup_range) (fun y hy=>by
     rw [B8] at hy;obtain ⟨q,hq,rfl⟩:=hy;have:=h3 (xs.contains (x.1,q)) (by simp only [flg,B8];exact ⟨q,hq,rfl⟩);cases hc:xs.contains (x.1,q) with
     |true=>exact Ar.1 hc
     |false=>rw [hc] at this;simp at this)
    rw [AA,List.length_range] at hle hge;omega
def bL (dt:List Dat) (m:List Al):∀ {l:List Al} {xs:List (Nat×Nat)},Dd dt l= .ok xs->Dd dt (l++m)=(Dd dt m).map (xs++·)
 |[],xs,h=>by
  simp only [Dd,EN] at h;subst h;simp only [Ag];cases Dd dt m<;>rfl
 | .mk c vs b::l,xs,h=>by
  rw [AX,Dd];rw [Dd] at h;cases hc:El dt c with
  |none=>rw [hc] at h;cases h
  |some x=>
   rw [hc] at h;simp only at h ⊢;split at h
   . cases h
   . split at h
     . cases h
     . rename_i h1 h2;rw [if_neg h1,if_neg h2];cases hl:Dd dt l with
       |error e=>rw [hl] at h;cases h
       |ok ys=>
        rw [hl] at h;simp only [C4,EN] at h;subst h;rw [bL dt m hl];cases Dd dt m<;>rfl
def xF (dt:List Dat) (Y:AH) (xs:List (Nat×Nat)) (v:AV) (τ:AH):Prop:=
 (xs=[]/\v= .Ad/\τ=Y)\/(xs≠[]/\∃k e,Y.blk k=none/\v= .ms k (NU dt (HP xs)) 1 e/\τ=Y.AL k (BP (flg xs (HP xs) (NU dt (HP xs)))))
def xF.le (h:xF dt Y xs v τ):Y.le τ:=by
 rcases h with ⟨_,_,rfl⟩|⟨_,k,e,hk,_,rfl⟩
 . exact AH.le_refl _
 . exact CK hk
def AD6 {d:Nat} {x:Dat} (h:dt[d]?=some x):NU dt d=x.cons.length:=by simp [NU,h]
def xH {dt:List Dat}:∀ {l:List Al} {xs:List (Nat×Nat)},Dd dt l= .ok xs->∀x∈xs,x.2 < NU dt x.1
 |[],xs,h=>by simp only [Dd,EN] at h;subst h;simp
 | .mk c vs b::l,xs,h=>by
  rw [Dd] at h;cases hc:El dt c with
  |none=>rw [hc] at h;cases h
  |some x=>
   rw [hc] at h;simp only at h;split at h
   . cases h
   . split at h
     . cases h
     . cases hl:Dd dt l with
       |error e=>rw [hl] at h;cases h
       |ok ys=>
        rw [hl] at h;simp only [C4,EN] at h;subst h;intro y hy;rcases Az.1 hy with rfl|hy
        . obtain ⟨d,cc,h1,h2,_⟩:=ZE hc;rw [AD6 h1];exact (AE.1 h2).1
        . exact xH hl y hy
def AUH:exB []=true:=rfl
def Xk (h:xs≠[]) (y:Nat×Nat):HP (xs++[y])=HP xs:=by
 cases xs with
 |nil=>exact absurd rfl h
 |cons x l=>rfl
def ATW (ds:List DE) (fs:List FE) (dt:List Dat) (hdt:uS dt) (al:List Al) (Y:AH) (hal:al.length<=1000000):
 AR Tzp 214 [.agg [.d (.sl (ds.map DE.enc)),.d (.sl (fs.map FE.enc)),.d (.sl (dt.map Dat.enc))],.d (.sl (al.map Al.enc))] Y (fun v σ'=>v= .d (.int .i64 (XN dt al))/\σ'=Y):=by
 refine Xy (by simp) ?_;rw [BD];(repeat' (refine wQ ?_<;>try simp only [AA,go_sem]));refine Run.BB ?_
 refine Run.BE ((fun (a2:AV) (a13:AV) (a14:AV)=>fun (y:Nat×List (Nat×Nat)×AV×AH)=>put 2 a2 (put 5 (.d (.bool (exB y.2.1))) (put 6 (.d (.int .i64 (HP y.2.1))) (put 7 (y.2.2.1) (put 13 a13 (put 14 a14 (put 15 (.d (.int .i64 y.1)) U))))))) _ _ _) (fun _=>At 2 [.d (.sl (ds.map DE.enc)),.d (.sl (fs.map FE.enc)),.d (.sl (dt.map Dat.enc))] E) (fun y=>y.2.2.2)
  (fun y=>y.1<=al.length/\y.2.1.length=y.1/\Dd dt (al.take y.1)= .ok y.2.1/\xF dt Y y.2.1 y.2.2.1 y.2.2.2) (fun y=>al.length - y.1) ?_ (0,[],.Ad,Y) ⟨by simp,rfl,rfl,.inl ⟨rfl,rfl,rfl⟩⟩
 rintro ⟨i,xs,sv,τ⟩ ⟨hi,hlx,hok,hseen⟩ ih;simp only at hi hlx hok hseen;by_cases hlt:i < al.length
 . obtain ⟨a,ha⟩:=Ai hlt;have he:=BI (enc:=Al.enc) ha;have hw1:=wsu i
   have hall:Dd dt al=(Dd dt (a::al.drop (i+1))).map (xs++·):=by
    conv=>lhs;rw [<- A7 i al,By ha]
    exact bL dt _ hok
   have hsn:Dd dt (al.take (i+1))=(Dd dt [a]).map (xs++·):=by
    rw [A5 ha];exact bL dt _ hok
   obtain ⟨c,vs,o,n,u,ns,ks,aa⟩:=a;rw [Dd] at hall hsn;simp only [Al.A4] at he;have hctr:=Ka dt hdt c τ;rw [dsA] at hctr;have herr:∀e:Int,Dd dt al= .error e->XN dt al=e:=fun e h=>by rw [XN,h]
   cases hc:El dt c with
   |none=>
    rw [hc] at hctr hall;simp only [qM] at hctr;(repeat' ((first|refine wQ ?_|(refine Run.Bg Cm hseen.le ?_)|refine AI.det (hctr) ?_|fail)<;>try simp only [Ap hlt,he,go_sem]));rw [herr 3 (by rw [hall];rfl)]
   |some x=>
   rw [hc] at hctr hall hsn;simp only [qM] at hctr hall hsn;obtain ⟨d,cc,h1,h2,_⟩:=ZE hc;have har:=qN (s:=[]) h1 h2;have hn:=AD6 h1;have hdl:=hdt d (AD h1);have hkn:x.2 < d.cons.length:=(AE.1 h2).1;have hd:=Um h1;have hcc:=ZB h2;rw [har] at hall hsn;have hix:Zu (.d (.int .i64 (x.1:Int)))=some x.1:=by simp [Zu]
   by_cases hA:vs.length≠cc.args.length
   . rw [if_pos hA] at hall;have hA':((vs.length:Int) != (cc.args.length:Int))=true:=by rw [APO];simpa using hA
     (repeat' ((first|refine wQ ?_|(refine Run.Bg Cm hseen.le ?_)|refine AI.det (hctr) ?_|fail)<;>try simp only [Ap hlt,he,hd,hcc,AA,D0,hA',go_sem]));rw [herr 5 (by rw [hall];rfl)]
   rw [if_neg hA] at hall hsn;have hA':((vs.length:Int) != (cc.args.length:Int))=false:=by rw [APO];simpa using hA
   have hrep:=R8 vs τ;cases hB:DC vs with
   |true=>
    rw [hB] at hrep hall;rw [if_pos rfl] at hall;(repeat' ((first|refine wQ ?_|(refine Run.Bg Cm hseen.le ?_)|refine AI.det (hctr) ?_|refine AI.det (hrep) ?_|fail)<;>try simp only [Ap hlt,he,hd,hcc,AA,D0,hA',go_sem]));rw [herr 4 (by rw [hall];rfl)]
   |false=>
   rw [hB] at hrep hsn;rw [if_neg (by simp)] at hsn;simp only [Dd,C4] at hsn;rw [show xs++[x]=xs++[(x.1,x.2)] from rfl] at hsn;have hgo:∀(sv':AV) (τ':AH),xF dt Y (xs++[(x.1,x.2)]) sv' τ'->_:=fun sv' τ' h=>ih (i+1,xs++[(x.1,x.2)],sv',τ') ⟨by simp only;omega,by simp [hlx],hsn,h⟩ (by simp only;omega);simp only at hgo;have hx2:((x.2:Int) < ((d.cons.length:Nat):Int))=True:=by simp only [eq_iff_iff,iff_true];omega
   rcases hseen with ⟨rfl,rfl,rfl⟩|⟨hne,k,e,hk,rfl,rfl⟩
   . -- the first alternative
     have h0:((i:Int)==0)=true:=by
      simp only [Bw] at hlx;subst hlx;rfl
     have hself:((x.1:Int) != (x.1:Int))=false:=by simp
     have hget:=Gl (l:=AG d.cons.length false) (k:=x.2) (x:=false) (by simp [hkn]);have w1:=eF (l:=AG d.cons.length false) (k:=x.2) true (by simpa using hkn);simp only [wr,A0,Bw,BF] at w1;have d1:(x.2+(0+1)<=(BP (AG d.cons.length false)).length)=True:=by rw [PJ,Vs];simp;omega
     have hlast:∀k e,τ.blk k=none->xF dt τ ([]++[(x.1,x.2)]) (.ms k d.cons.length 1 e) (τ.AL k (BP ((AG d.cons.length false).set x.2 true))):=fun k e hk=>by
      refine .inr ⟨by simp,k,e,hk,by rw [show HP ([]++[(x.1,x.2)])=x.1 from rfl,hn],?_⟩;rw [show HP ([]++[(x.1,x.2)])=x.1 from rfl,hn,<- AUU x.1,AJ7 hkn]
     have e1:exB ([]++[(x.1,x.2)])=true:=by simp [exB]
     rw [e1,show HP ([]++[(x.1,x.2)])=x.1 from rfl] at hgo;clear hall hsn ih herr;(repeat' ((first|refine wQ ?_|(refine O1.mk d.cons.length (by omega) (by omega) (fun k hk=>?_))|refine AI.det (hctr) ?_|refine AI.det (hrep) ?_|fail)<;>try simp only [Ap hlt,he,hd,hcc,hw1,AA,D0,hA',h0,hself,hx2,hget,w1,d1,A9,Yz,AUH,go_sem]));exact hgo _ _ (hlast _ _ (by assumption))
   . have h0:((i:Int)==0)=false:=by
      have:=Iu.2 hne;simp only [beq_eq_false_iff_ne,ne_eq];omega
     have hex:=AQD hne x.1 x.2;rw [Xk hne,hex] at hgo
     have hsame:(x.1≠HP xs\/(HP xs,x.2)∈xs)->xF dt Y (xs++[(x.1,x.2)]) (.ms k (NU dt (HP xs)) 1 e) (Y.AL k (BP (flg xs (HP xs) (NU dt (HP xs))))):=fun h=>by
      refine .inr ⟨by simp,k,e,hk,by rw [Xk hne],?_⟩;rw [Xk hne,AQQ h]
     clear hall hsn ih herr;by_cases hf:x.1=HP xs
     . have hself:((x.1:Int) != (HP xs:Int))=false:=by simp [hf]
       have hself':(x.1 != HP xs)=false:=by simpa using hf
       have hnf:NU dt (HP xs)=d.cons.length:=by rw [<- hf];exact hn
       rw [hnf] at hsame hctr hrep ⊢;have hget:=Gl (pD xs (f:=HP xs) hkn);cases hfl:xs.contains (HP xs,x.2) with
       |true=>
        rw [hfl] at hget;rw [hself',hfl,Bool.or_true,XC,Cy] at hgo;(repeat' ((first|refine wQ ?_|refine AI.det (hctr) ?_|refine AI.det (hrep) ?_|fail)<;>try simp only [Ap hlt,he,hd,hcc,hw1,AA,D0,hA',h0,hself,hx2,hget,A9,go_sem]));exact hgo _ _ (hsame (.inr (Ar.1 hfl)))
       |false=>
        rw [hfl] at hget;rw [hself',hfl,Bool.or_self,Iv,BU] at hgo;have w1:=eF (l:=flg xs (HP xs) d.cons.length) (k:=x.2) true (by rw [RX];exact hkn);simp only [wr,A0,Bw,BF] at w1;have d1:(x.2+(0+1)<=(BP (flg xs (HP xs) d.cons.length)).length)=True:=by rw [PJ,RX];simp;omega
        (repeat' ((first|refine wQ ?_|refine AI.det (hctr) ?_|refine AI.det (hrep) ?_|fail)<;>try simp only [Ap hlt,he,hd,hcc,hw1,AA,D0,hA',h0,hself,hx2,hget,w1,d1,A9,go_sem]));refine hgo _ _ (.inr ⟨by simp,k,e,hk,by rw [Xk hne,hnf],?_⟩);rw [Xk hne,hnf,AJ7 hkn,<- hf]
     . have hself:((x.1:Int) != (HP xs:Int))=true:=by simp only [bne_iff_ne,ne_eq];omega
       have hself':(x.1 != HP xs)=true:=by simpa using hf
       rw [hself',N7,XC,Cy] at hgo;(repeat' ((first|refine wQ ?_|refine AI.det (hctr) ?_|refine AI.det (hrep) ?_|fail)<;>try simp only [Ap hlt,he,hd,hcc,hw1,AA,D0,hA',h0,hself,go_sem]));exact hgo _ _ (hsame (.inl hf))
 . rw [AP (by omega)] at hok;have hres:XN dt al=if qW dt xs then 0 else 7:=by rw [XN,hok]
   rcases hseen with ⟨rfl,rfl,rfl⟩|⟨hne,k,e,hk,rfl,rfl⟩
   . (repeat' ((first|refine wP ?_|refine AI.det (mP false _) ?_|fail)<;>try simp only [B7 hlt,show exB []=true from rfl,go_sem]));rw [hres];rfl
   . have hbd:=xH hok;have hend:=AL5 (dt:=dt) hne (fun x Z h=>by rw [<- h];exact hbd x Z)
     have hnl:NU dt (HP xs)<=1000000:=by
      unfold NU;split
      . rename_i d hd;exact hdt d (AD hd)
      . omega
     have hcb:=hY (flg xs (HP xs) (NU dt (HP xs))) false k e (Y.AL k (BP (flg xs (HP xs) (NU dt (HP xs))))) (by simp only [AJ,if_true]) (by rw [RX];omega);rw [RX] at hcb;cases hB:exB xs with
     |false=>
      rw [hB,Mk] at hend;(repeat' ((first|refine wQ ?_|(refine Run.Bg Cm (CK hk) ?_)|fail)<;>try simp only [B7 hlt,hB,go_sem]));rw [hres,hend];rfl
     |true=>
      rw [hB,Bk] at hend;cases hC:(flg xs (HP xs) (NU dt (HP xs))).any (fun x=>false==x) with
      |true=>
       rw [hC] at hcb hend;(repeat' ((first|refine wQ ?_|(refine Run.Bg Cm (CK hk) ?_)|refine AI.det (hcb) ?_|fail)<;>try simp only [B7 hlt,hB,go_sem]));rw [hres,hend];rfl
      |false=>
       rw [hC] at hcb hend;(repeat' ((first|refine wQ ?_|(refine Run.Bg Cm (CK hk) ?_)|refine AI.det (hcb) ?_|fail)<;>try simp only [B7 hlt,hB,go_sem]));rw [hres,hend];rfl
def AJ9 (e:Ex):Prop:=(e.op=4->e.name≠[])/\(e.op=12->∃h t,e.kids=h::t/\(h.op=4->h.name≠[]))/\e.alts.length<=1000000/\e.kids.length<=1000000
def AKC (o:Option Nat):decide (HQ o < 0)=o.isNone:=by
 cases o with
 |none=>rfl
 |some i=>exact decide_eq_false (by simp only [HQ];omega)
def PL {s:Str}:∀ {l:List Str} {i:Nat},DP l s=some i->l[i]?=some s
 |[],i,h=>by simp [DP] at h
 |x::l,i,h=>by
  rw [DP] at h;split at h
  . rename_i Z;cases h;simpa using Z
  . simp only [AK] at h;obtain ⟨k,hk,rfl⟩:=h;simpa using PL hk
def x9 {fs:List FE} (h:DP (DY fs) s=some i):∃g,fs[i]?=some g/\g.name=s:=by
 have:=PL h;rw [DY,Am,AK] at this;exact this
def ARB:((0:Int)<=0)=True:=by simp
def Vf (fs:List FE) (dt:List Dat) (o:Int) (n:Str) (u:Int) (ns:List Str) (ks:List Ex) (al:List Al) (sc:List Str):QF fs dt (.mk o n u ns ks al) sc=
 if o=4 then (if !sc.contains n&&(DP (DY fs) n).isNone then 3 else 0)
                                       else if o=6 then
  match El dt n with
  |none=>3
  |some x=>if ks.length≠arity dt x then 5 else 0
            else if o=8\/o=11 then (if DC ns then 4 else 0)
            else if o=10 then XN dt al
            else if o=12 then
  match ks.head? with
  |none=>0
  |some h=>if h.op=4&& !sc.contains h.name then
   (match DP (DY fs) h.name with
   |none=>0
   |some f=>match fs[f]? with
    |some g=>if g.params.length+1≠ks.length then 5 else 0
    |none=>0) else 0
            else 0:=rfl
def ATH (ds:List DE) (fs:List FE) (dt:List Dat) (hdt:uS dt) (e:Ex) (sc:List Str) (hg:AJ9 e) (Y:AH):
 AR Tzp 150 [.agg [.d (.sl (ds.map DE.enc)),.d (.sl (fs.map FE.enc)),.d (.sl (dt.map Dat.enc))],exA e,.d (bdL sc)] Y (fun v σ'=>v= .d (.int .i64 (QF fs dt e sc))/\σ'=Y):=by
 obtain ⟨o,n,u,ns,ks,al⟩:=e;obtain ⟨hg4,hg12,hgal,hgk⟩:=hg;simp only [Ex.op,Ex.name,Ex.kids,Ex.alts] at hg4 hg12 hgal hgk;refine W8 (by simp) ?_;rw [DK,exA,Ex.A4];have hfun:=fun s=>Xl ⟨ds,fs⟩ s Y;simp only [pgA,Pg.enc,AF,AN] at hfun;have hctr:=Ka dt hdt n Y;rw [dsA] at hctr;by_cases h4:o=4
 . subst h4
   have hv:QF fs dt (.mk 4 n u ns ks al) sc=if !sc.contains n&&(DP (DY fs) n).isNone then 3 else 0:=by
    rw [Vf,if_pos rfl]
   have hh:=AAJ sc n (hg4 rfl) Y;have hf:=hfun n;cases h1:sc.contains n with
   |true=>
    rw [h1] at hh;(repeat' ((first|refine wP ?_|refine AI.det (hh) ?_|fail)<;>try simp only [go_sem]));rw [hv,h1];rfl
   |false=>
    rw [h1] at hh;cases h2:(DP (DY fs) n).isNone with
    |true=>
     (repeat' ((first|refine wP ?_|refine AI.det (hh) ?_|refine AI.det (hf) ?_|fail)<;>try simp only [AKC,h2,go_sem]));rw [hv,h1,h2];rfl
    |false=>
     (repeat' ((first|refine wP ?_|refine AI.det (hh) ?_|refine AI.det (hf) ?_|fail)<;>try simp only [AKC,h2,go_sem]));rw [hv,h1,h2];rfl
 by_cases h6:o=6
 . subst h6
   have hv:QF fs dt (.mk 6 n u ns ks al) sc=match El dt n with|none=>3|some x=>if ks.length≠arity dt x then 5 else 0:=by
    rw [Vf,if_neg (show ¬(6:Int)=4 by decide),if_pos rfl]
    all_goals rfl
   cases hc:El dt n with
   |none=>
    rw [hc] at hctr hv;simp only [qM] at hctr;(repeat' ((first|refine wP ?_|refine AI.det (hctr) ?_|fail)<;>try simp only [Aa,go_sem]));rw [hv]
   |some x=>
    rw [hc] at hctr hv;simp only [qM] at hctr;obtain ⟨d,cc,h1,h2,_⟩:=ZE hc;have har:=qN (s:=[]) h1 h2;have hd:=Um h1;have hcc:=ZB h2;have hb:=APO ks.length cc.args.length;cases hne:(ks.length != cc.args.length) with
    |true=>
     rw [hne] at hb;(repeat' ((first|refine wP ?_|refine AI.det (hctr) ?_|fail)<;>try simp only [Aa,hd,hcc,AA,D0,hb,go_sem]));rw [hv];simp only;rw [if_pos (by rw [har];simpa using hne)]
    |false=>
     rw [hne] at hb;(repeat' ((first|refine wP ?_|refine AI.det (hctr) ?_|fail)<;>try simp only [Aa,hd,hcc,AA,D0,hb,go_sem]));rw [hv];simp only;rw [if_neg (by rw [har];simpa using hne)]
 by_cases h8:o=8\/o=11
 . have hv:QF fs dt (.mk o n u ns ks al) sc=if DC ns then 4 else 0:=by
    rw [Vf,if_neg (show ¬o=4 from h4),if_neg (show ¬o=6 from h6),if_pos (show o=8\/o=11 from h8)]
    all_goals rfl
   have hrep:=R8 ns Y;cases hB:DC ns with
   |true=>
    rw [hB] at hrep hv;rcases h8 with rfl|rfl
    all_goals (repeat' ((first|refine wP ?_|refine AI.det (hrep) ?_|fail)<;>try simp only [Aa,go_sem]))
    all_goals (rw [hv];rfl)
   |false=>
    rw [hB] at hrep hv;rcases h8 with rfl|rfl
    all_goals (repeat' ((first|refine wP ?_|refine AI.det (hrep) ?_|fail)<;>try simp only [Aa,go_sem]))
    all_goals (rw [hv];rfl)
 by_cases h10:o=10
 . subst h10
   have hv:QF fs dt (.mk 10 n u ns ks al) sc=XN dt al:=by
    rw [Vf,if_neg (show ¬(10:Int)=4 by decide),if_neg (show ¬(10:Int)=6 by decide),if_neg (show ¬((10:Int)=8\/(10:Int)=11) by decide),if_pos rfl]
    all_goals rfl
   (repeat' ((first|refine wP ?_|refine AI.det (ATW ds fs dt hdt al Y hgal) ?_|fail)<;>try simp only [Aa,go_sem]));rw [hv]
 by_cases h12:o=12
 . subst h12;obtain ⟨h,t,rfl,hh4⟩:=hg12 rfl;have hlen:(h::t).length=t.length+1:=rfl;obtain ⟨xo,xn,xu,xs,xk,xa⟩:=h
   have hv:QF fs dt (.mk 12 n u ns (.mk xo xn xu xs xk xa::t) al) sc=if decide (xo=4)&& !sc.contains xn then (match DP (DY fs) xn with|none=>0|some f=>match fs[f]? with|some g=>if g.params.length+1≠t.length+1 then 5 else 0|none=>0) else 0:=by
    rw [Vf,if_neg (show ¬(12:Int)=4 by decide),if_neg (show ¬(12:Int)=6 by decide),if_neg (show ¬((12:Int)=8\/(12:Int)=11) by decide),if_neg (show ¬(12:Int)=10 by decide),if_pos rfl]
    all_goals rfl
   simp only [Ex.op] at hh4;generalize hw:QF fs dt (.mk 12 n u ns (.mk xo xn xu xs xk xa::t) al) sc=w at hv ⊢;clear hw;have hf:=hfun xn;by_cases hx4:xo=4
   . subst hx4;have hh:=AAJ sc xn (hh4 rfl) Y;cases h1:sc.contains xn with
     |true=>
      rw [h1] at hh hv;(repeat' ((first|refine wP ?_|refine AI.det (hh) ?_|fail)<;>try simp only [Aa,AF,Ex.A4,QK,ARB,go_sem]));rw [hv];rfl
     |false=>
      rw [h1] at hh hv;cases hi:DP (DY fs) xn with
      |none=>
       rw [hi] at hf hv;simp only [HQ] at hf;have hneg:decide ((0:Int)<=-1)=false:=by decide
       (repeat' ((first|refine wP ?_|refine AI.det (hh) ?_|refine AI.det (hf) ?_|fail)<;>try simp only [Aa,AF,Ex.A4,QK,ARB,hneg,go_sem]));rw [hv];rfl
      |some f=>
       rw [hi] at hf hv;simp only [HQ] at hf;obtain ⟨g,hgf,_⟩:=x9 hi;have hge:=BI (enc:=FE.enc) hgf;simp only at hv;rw [hgf] at hv;obtain ⟨gn,gp,go,gn2,gu,gns,gk,ga⟩:=g;simp only [FE.enc,Ex.A4] at hge;have hpos:decide ((0:Int)<=(f:Int))=true:=by simp
       have hsub:IntKind.i64.wrap (((t.length+1:Nat):Int) - 1)=(t.length:Int):=M1 (by simp only [A0] at hgk;omega);have hb:=APO t.length gp.length;simp only [Iv,BU,decide_true,if_true] at hv;cases hne:(t.length != gp.length) with
       |true=>
        rw [hne] at hb;(repeat' ((first|refine wP ?_|refine AI.det (hh) ?_|refine AI.det (hf) ?_|fail)<;>try simp only [Aa,AF,Ex.A4,QK,ARB,hge,A0,AA,hsub,hb,go_sem]));rw [hv,if_pos (by simp only [bne_iff_ne,ne_eq] at hne;omega)]
       |false=>
        rw [hne] at hb;(repeat' ((first|refine wP ?_|refine AI.det (hh) ?_|refine AI.det (hf) ?_|fail)<;>try simp only [Aa,AF,Ex.A4,QK,ARB,hge,A0,AA,hsub,hb,go_sem]));rw [hv,if_neg (by simp only [bne_eq_false_iff_eq] at hne;omega)]
   . have hxf:=Cf hx4;(repeat' (refine wP ?_<;>try simp only [Aa,AF,Ex.A4,QK,ARB,hxf,go_sem]));rw [hv,decide_eq_false hx4];rfl
 . have hv:QF fs dt (.mk o n u ns ks al) sc=0:=by
    rw [Vf,if_neg (show ¬o=4 from h4),if_neg (show ¬o=6 from h6),if_neg (show ¬(o=8\/o=11) from h8),if_neg (show ¬o=10 from h10),if_neg (show ¬o=12 from h12)]
   simp only [not_or] at h8;(repeat' (refine wP ?_<;>try simp only [Cf h4,Cf h6,Cf h8.1,Cf h8.2,Cf h10,Cf h12,go_sem]));rw [hv]
def SlV (v:AV) (rows:List (List DV)):Prop:=v= .d (.sl rows)\/(∃t e s,v= .own t e s rows)\/(rows=[]/\v= .Ad)
def SlV.BS {rows:List (List DV)} (h:SlV v rows):v.BS=true:=by
 rcases h with rfl|⟨t,e,s,rfl⟩|⟨rfl,rfl⟩<;>rfl
def SlV.cell {rows:List (List DV)} (h:SlV v rows):v.B1=true:=by
 rcases h with rfl|⟨t,e,s,rfl⟩|⟨rfl,rfl⟩<;>rfl
def SlV.len {rows:List (List DV)} (h:SlV v rows):Tx v=some (.d (.int .i64 rows.length)):=by
 rcases h with rfl|⟨t,e,s,rfl⟩|⟨rfl,rfl⟩<;>rfl
def SlV.ix {rows:List (List DV)} (h:SlV v rows) {r:List DV} (hr:rows[i]?=some r):ixA v (.d (.int .i64 (i:Int))) r.length=some (.ep r 0):=by
 rcases h with rfl|⟨t,e,s,rfl⟩|⟨rfl,rfl⟩
 . simp [ixA,ixR,hr]
 . simp [ixA,ixR,hr]
 . simp at hr
def SlV.plain {v:AV} {rows:List (List DV)} (h:SlV v rows):v.plain= .d (.sl rows):=by
 rcases h with rfl|⟨t,e,s,rfl⟩|⟨rfl,rfl⟩<;>simp only [AV.plain]
def SlV.dv {rows:List (List DV)} (h:SlV v rows):v.dv=some (.sl rows):=by
 rcases h with rfl|⟨t,e,s,rfl⟩|⟨rfl,rfl⟩<;>rfl
def Kd (cs:List AV) (dl:List Dat):Prop:=cs.length=dl.length * 3/\∀i d,dl[i]?=some d->∃cv,(cs.drop (i * 3)).take 3=[.d (.str d.name),.d (.int .i64 d.vars),cv]/\SlV cv (d.cons.map Con.enc)
def Kd.at (h:Kd cs dl) {d:Dat} (hd:dl[i]?=some d):
 ∃cv,(cs.drop (i * 3)).take 3=[.d (.str d.name),.d (.int .i64 d.vars),cv]/\SlV cv (d.cons.map Con.enc)/\cs[i * 3]?=some (.d (.str d.name))/\cs[i * 3+1]?=some (.d (.int .i64 d.vars))/\cs[i * 3+2]?=some cv/\(i * 3+3<=cs.length)=True:=by
 obtain ⟨cv,h1,h2⟩:=h.2 i d hd;have hi:=(AE.1 hd).1
 have g:∀k,k < 3->cs[i * 3+k]?=([.d (.str d.name),.d (.int .i64 d.vars),cv]:List AV)[k]?:=fun k hk=>by
  rw [<- h1,B2,if_pos hk,BN]
 refine ⟨cv,h1,h2,g 0 (by omega),g 1 (by omega),g 2 (by omega),?_⟩;rw [h.1];simp;omega
def DlS (τ:AH) (dl:List Dat) (v:AV):Prop:=(dl=[]/\v= .Ad)\/(∃jd e cs,v= .ms jd dl.length 3 e/\τ.blk jd=some cs/\Kd cs dl)
def DlS.len (h:DlS τ dl v):Tx v=some (.d (.int .i64 dl.length)):=by
 rcases h with ⟨rfl,rfl⟩|⟨jd,e,cs,rfl,_,_⟩<;>rfl
def DlS.BS (h:DlS τ dl v):v.BS=true:=by
 rcases h with ⟨rfl,rfl⟩|⟨jd,e,cs,rfl,_,_⟩<;>rfl
def DlS.le (h:DlS τ dl v) (hl:τ.le τ'):DlS τ' dl v:=by
 rcases h with ⟨rfl,rfl⟩|⟨jd,e,cs,rfl,hb,hr⟩
 . exact .inl ⟨rfl,rfl⟩
 . exact .inr ⟨jd,e,cs,rfl,hl.blk _ _ hb,hr⟩
def dX {fid:FuncId} {caps:List AV} (hb:CT Tzp fid=true) (hcp:caps.all AV.BS=true) (p:Dat->Bool) (l:List Dat) (v:AV) (Y:AH) (hl:l.length<=1000000) (hv:DlS Y l v)
 (hf:∀d∈l,∀cv,cv.BS=true->cv.B1=true->AR Tzp fid (.agg [.d (.str d.name),.d (.int .i64 d.vars),cv]::caps) Y (fun v σ'=>v= .d (.bool (p d))/\σ'=Y)):
 AR Tzp 187 [v,.fn fid [] caps] Y (fun v σ'=>v= .d (.int .i64 (HQ (l.findIdx? p)))/\σ'=Y):=by
 refine Oj (by simp) ?_;rw [BD];have hlen:=hv.len;rcases hv with ⟨rfl,rfl⟩|⟨jd,e,cs,rfl,hbk,hrows⟩
 . have h0:decide ((0:Int) < 0)=false:=by decide
   (repeat' ((first|refine wP ?_|(refine Run.loop ?_)|fail)<;>try simp only [h0,go_sem]));rfl
 (repeat' (refine wQ ?_<;>try simp only [go_sem]));refine Run.BB ?_;refine Run.BE ((fun (a0:AV) (a1:AV) (a7:AV)=>fun (i:Nat)=>put 0 a0 (put 1 a1 (put 7 a7 (put 8 (.d (.int .i64 i)) U)))) _ _ _) (fun _=>E) (fun _=>Y) (fun i=>i<=l.length/\∀x∈l.take i,p x=false) (fun i=>l.length - i) ?_ 0 ⟨by simp,by simp⟩;rintro i ⟨hi,hno⟩ ih;by_cases hlt:i < l.length
 . obtain ⟨x,Z⟩:=Ai hlt;obtain ⟨cv,h1,h2,_,_,_,h3⟩:=hrows.at Z;have hix:((i:Int) < (l.length:Int))=True:=by simp;omega
   have hw1:=wsu i;have hc:=hf x (AD Z) cv h2.BS h2.cell;cases hp:p x with
   |true=>
    rw [hp] at hc;(repeat' ((first|refine wP ?_|(refine ⟨fid,[],caps,rfl,hb,AI.det hc ?_ (by simp [hcp,Dm])⟩)|fail)<;>try simp only [hix,hbk,h1,h3,go_sem]));rw [Dj hno Z hp];rfl
   |false=>
    rw [hp] at hc;(repeat' ((first|refine wQ ?_|(refine ⟨fid,[],caps,rfl,hb,AI.det hc ?_ (by simp [hcp,Dm])⟩)|fail)<;>try simp only [hix,hbk,h1,h3,hw1,go_sem]));exact ih (i+1) ⟨by omega,F7 hno Z hp⟩ (by omega)
 . (repeat' (refine wP ?_<;>try simp only [B7 hlt,go_sem]));rw [AP (by omega)] at hno;rw [Dk hno];rfl
def AMD (s nm:Str) (n:Int) (cv:AV) (hcv:cv.B1=true) (j:Nat) (Y:AH) (hj:Y.blk j=some [.d (.str s)]):AR Tzp 188 [.agg [.d (.str nm),.d (.int .i64 n),cv],.gp j 0] Y (fun v σ'=>v= .d (.bool (nm==s))/\σ'=Y):=by
 refine Te (by simp) ?_;rw [BD];(repeat' (refine wP ?_<;>try simp only [hj,CA,hcv,go_sem]))
def Ly (l:List Dat):List Str:=l.map (·.name)
def ADO (l:List Dat) (s:Str):l.findIdx? (fun x=>x.name==s)=DP (Ly l) s:=by
 rw [<- To,Ly,List.findIdx?_map];rfl
def AJ6 (l:List Dat) (dv:AV) (rest:List AV) (jr:Nat) (s:Str) (Y:AH) (hl:l.length<=1000000) (hb:Y.blk jr=some (dv::rest)) (hv:DlS Y l dv):
 AR Tzp 127 [.gp jr 0,.d (.str s)] Y (fun v σ'=>v= .d (.int .i64 (HQ (DP (Ly l) s)))/\σ'=Y):=by
 refine W9 (by simp) ?_;rw [BD];(repeat' (first|refine ctQ rfl ?_|((first|refine rgQ mxQ ?_|refine cdQ ?_)<;>try simp only [go_sem])|fail));intro j hj;have hle:=CK (cs:=[AV.d (.str s)]) hj;have hcell:dv.B1=true:=by rcases hv with ⟨_,rfl⟩|⟨jd,e,cs,rfl,_,_⟩<;>rfl
 have hne:jr≠j:=fun e=>by rw [e,hj] at hb;cases hb
 have hc:=dX (fid:=188) (caps:=[.gp j 0]) (by kernel_rfl) rfl (fun x=>x.name==s) l dv (Y.AL j [.d (.str s)]) hl (hv.le hle) (fun d _ cv _ h2=>AMD s d.name d.vars cv h2 j _ (by simp only [AJ,if_true]));rw [ADO] at hc;have hnl:=hv.BS;(repeat' ((first|refine wQ ?_|(refine AI.mk (by simp only [BO,Cq,hnl,fY,XB]) hc ?_;rintro _ _ ⟨rfl,rfl⟩)|(refine Run.Bg Lf (σ2:=Y) hle ?_)|fail)<;>try simp only [hne,hb,hcell,go_sem]))
def rY (t:TE) (s:Str):Bool:=match t with| .mk k n _=>k==4&&n==s
def oG (t:TE) (s:Str) (Y:AH):AR Tzp 249 [teA t,.d (.str s)] Y (fun v σ'=>v= .d (.bool (rY t s))/\σ'=Y):=by
 refine NF (by simp) ?_;rw [BD];obtain ⟨k,n,l⟩:=t;simp only [TE.A4,teA,AF,AN];(repeat' (first|refine ctQ rfl ?_|(refine QJ (by first|exact GV.t|exact GV.f|exact GV.st|exact GV.sf) ⟨?_,fun h=>?_,?_⟩;rotate_left;(focus ((try simp only [AO,N6] at h);simp only [go_sem];first|exact Is.mk|exact Is.pv (by simp only [h,UM,CA,go_sem];rfl)));(try simp only [↓LA,go_sem]))|((first|refine rgQ mxQ ?_|refine cdQ ?_|refine Run.qP HK ?_)<;>try simp only [go_sem])|fail));rfl
def Kz (t:TE) (l:List TE) (s:Str) (vs:List Str):Fy (t::l) (s::vs)=(rY t s&&Fy l vs):=by cases t;rfl
def mE:∀ {l:List TE} {vs:List Str},l.length≠vs.length->Fy l vs=false
 |[],[],h=>absurd rfl h
 |[],v::vs,_=>rfl
 |t::l,[],_=>by cases t;rfl
 |t::l,v::vs,h=>by rw [Kz,mE (by simpa using h),Cy]
def zK (l:List TE) (vs:List Str) (Y:AH) (hl:l.length<=1000000):AR Tzp 248 [.d (.sl (l.map TE.enc)),.d (.sl (vs.map BX)),.fn 249 [] []] Y (fun v σ'=>v= .d (.bool (Fy l vs))/\σ'=Y):=by
 refine Qa (by simp) ?_;rw [DK];have hb:=APO l.length vs.length;cases hne:(l.length != vs.length) with
 |true=>
  rw [hne] at hb;(repeat' (refine wP ?_<;>try simp only [AA,hb,go_sem]));rw [mE (by simpa using hne)]
 |false=>
 rw [hne] at hb;have hlen:l.length=vs.length:=by simpa using hne
 (repeat' (refine wQ ?_<;>try simp only [AA,hb,go_sem]));refine Run.BB ?_;refine Run.BE ((fun (a1:AV) (a2:AV) (a15:AV) (a16:AV)=>fun (i:Nat)=>put 1 a1 (put 2 a2 (put 15 a15 (put 16 a16 (put 17 (.d (.int .i64 i)) U))))) _ _ _ _) (fun _=>E) (fun _=>Y) (fun i=>i<=l.length/\Fy l vs=Fy (l.drop i) (vs.drop i)) (fun i=>l.length - i) ?_ 0 ⟨by simp,rfl⟩;rintro i ⟨hi,hok⟩ ih;by_cases hlt:i < l.length
 . obtain ⟨x,Z⟩:=Ai hlt;obtain ⟨s,hs⟩:=Ai (show i < vs.length by omega);have he:=BI (enc:=TE.enc) Z;have he2:=BI (enc:=BX) hs;simp only [BX] at he2;have hw1:=wsu i;have hc:=oG x s Y;rw [By Z,By hs,Kz] at hok;cases hp:rY x s with
   |true=>
    rw [hp] at hc hok;obtain ⟨xk,xn,xl⟩:=x;simp only [TE.A4,teA,AF,AN] at he hc;(repeat' ((first|refine wQ ?_|(refine ⟨_,[],[],rfl,by kernel_rfl,AI.det hc ?_⟩)|fail)<;>try simp only [Ap hlt,he,he2,hw1,go_sem]));exact ih (i+1) ⟨by omega,hok⟩ (by omega)
   |false=>
    rw [hp] at hc hok;obtain ⟨xk,xn,xl⟩:=x;simp only [TE.A4,teA,AF,AN] at he hc;(repeat' ((first|refine wP ?_|(refine ⟨_,[],[],rfl,by kernel_rfl,AI.det hc ?_⟩)|fail)<;>try simp only [Ap hlt,he,he2,go_sem]));rw [hok];rfl
 . (repeat' (refine wP ?_<;>try simp only [B7 hlt,go_sem]));rw [KW (by omega),KW (by omega)] at hok;rw [hok];rfl
def wL (l:List TE) (dv:AV) (nm:Str) (vs:List Str) (cs:List CE) (jr:Nat) (Y:AH) (hl:l.length<=1000000) (hb:Y.blk jr=some [dv,.d (.str nm),.d (.sl (vs.map BX)),.d (.sl (cs.map CE.enc))]):
 AR Tzp 191 [.gp jr 0,.d (.sl (l.map TE.enc))] Y (fun v σ'=>v= .d (.bool (Fy l vs))/\σ'=Y):=by
 refine Oi (by simp) ?_;rw [BD];(repeat' ((first|refine wP ?_|refine AI.det (zK l vs Y hl) ?_|fail)<;>try simp only [hb,go_sem]))
def Y6:Except Int Ty->AV
 | .ok t=>.tup [tyA t,.d (.int .i64 0)]
 | .error e=>.tup [.agg [.d (.int .i64 0),.d (.int .i64 0),.d (.sl [])],.d (.int .i64 e)]
def UC (ds:List (Str×Nat)) (vars:List Str) (m:List TE):∀ {l:List TE} {us:List Ty},DA ds vars l= .ok us->DA ds vars (l++m)=(DA ds vars m).map (us++·)
 |[],us,h=>by
  simp only [DA,EN] at h;subst h;simp only [Ag];cases DA ds vars m<;>rfl
 |t::l,us,h=>by
  rw [DA] at h;rw [AX,DA];cases ht:Io ds vars false t with
  |error e=>rw [ht] at h;cases h
  |ok u=>
   rw [ht] at h;simp only at h ⊢;cases hl:DA ds vars l with
   |error e=>rw [hl] at h;cases h
   |ok ys=>
    rw [hl] at h;simp only [C4,EN] at h;subst h;rw [UC ds vars m hl];cases DA ds vars m<;>rfl
def gJ {vars:List Str}:(∀(t:TE) (whole:Bool) (e:Int),Io ds vars whole t= .error e->e≠0):=by
 intro t
 induction h:t.size using Cc generalizing t with
 |_ N ih=>
 subst h;obtain ⟨k,n,l⟩:=t
 have hl:∀(l':List TE),(∀x∈l',x.size < (TE.mk k n l).size)->∀e,DA ds vars l'= .error e->e≠0:=by
  intro l'
  induction l' with
  |nil=>intro _ e h;cases h
  |cons x l' ihl=>
   intro Z e h;rw [DA] at h;cases hxe:Io ds vars false x with
   |error e'=>rw [hxe] at h;cases h;exact ih x.size (Z x (AW ..)) x rfl false _ hxe
   |ok u=>
    rw [hxe] at h;cases hle:DA ds vars l' with
    |error e'=>rw [hle] at h;cases h;exact ihl (fun y hy=>Z y (AU _ hy)) _ hle
    |ok us=>rw [hle] at h;cases h
 have hsz:∀x∈l,x.size < (TE.mk k n l).size:=fun x Z=>by
  have:=TE.Im Z;simp only [TE.size];omega
 have hmap:∀(num:Int) e,(DA ds vars l).map (Ty.mk k num)= .error e->e≠0:=fun num e h=>by
  cases hle:DA ds vars l with
  |error e'=>rw [hle] at h;cases h;exact hl l hsz _ hle
  |ok us=>rw [hle] at h;cases h
 intro whole e h;rw [Io] at h;split at h
 . split at h
   . cases h;decide
   . exact hmap _ _ h
 . split at h
   . split at h
     . cases h;decide
     . split at h
       . cases h;decide
       . split at h
         . cases h;decide
         . exact hmap _ _ h
   . exact hmap _ _ h
def Fl (dl:List Dat):List (Str×Nat):=dl.map fun d=>(d.name,d.vars.toNat)
def RB (τ:AH) (jr:Nat) (dl:List Dat) (nm:Str) (vars:List Str) (cs:List CE):Prop:=∃dv,τ.blk jr=some [dv,.d (.str nm),.d (.sl (vars.map BX)),.d (.sl (cs.map CE.enc))]/\DlS τ dl dv
def RB.le {τ τ':AH} {jr:Nat} {dl:List Dat} {nm:Str} {vars:List Str} {cs:List CE} (h:RB τ jr dl nm vars cs) (hl:τ.le τ'):RB τ' jr dl nm vars cs:=by
 obtain ⟨dv,h1,h2⟩:=h;exact ⟨dv,hl.blk _ _ h1,h2.le hl⟩
def ABE (jr:Nat) (dl:List Dat) (nm:Str) (vars:List Str) (cs:List CE) (k num:Int) (l:List TE) (τ:AH) (hrb:RB τ jr dl nm vars cs) (hll:l.length<=1000000)
 (ih:∀x∈l,∀τ',RB τ' jr dl nm vars cs->AR Tzp 130 [.gp jr 0,teA x,.d (.bool false)] τ' (fun v σ'=>v=Y6 (Io (Fl dl) vars false x)/\σ'=τ')):
 Run DM (fun v σ'=>v=Y6 ((DA (Fl dl) vars l).map (Ty.mk k num))/\σ'=τ) [.code (.loop Hi),.blk 1,.code (.seq (.reg [⟨some 102,.ldl (.t 8) (some 3),none⟩,⟨none,.st (.t 6) (.t 102) 3,none⟩,⟨some 7,.mv (.c (.d (.int .i64 0))),none⟩] [6,7]) .ret)]
  (put 0 (.gp jr 0) (put 6 (.lp 6 0) (put 8 (.lp 8 0) (put 79 (.d (.sl (l.map TE.enc))) (put 80 (.d (.int .i64 l.length)) (put 81 (.d (.int .i64 0)) U)))))) (At 6 [.d (.int .i64 0),.d (.int .i64 0),.Ad] (At 8 [.d (.int .i64 k),.d (.int .i64 num),.Ad] E)) τ:=by
 refine Run.BB ?_
 refine Run.BE ((fun (a0:AV) (a6:AV) (a8:AV) (a79:AV) (a80:AV)=>fun (y:Nat×List Ty×AV×AH)=>put 0 a0 (put 6 a6 (put 8 a8 (put 79 a79 (put 80 a80 (put 81 (.d (.int .i64 y.1)) U)))))) _ _ _ _ _) (fun y=>At 6 [.d (.int .i64 0),.d (.int .i64 0),.Ad] (At 8 [.d (.int .i64 k),.d (.int .i64 num),y.2.2.1] E)) (fun y=>y.2.2.2)
  (fun y=>y.1<=l.length/\y.2.1.length=y.1/\DA (Fl dl) vars (l.take y.1)= .ok y.2.1/\CC τ 42 3 (y.2.1.map Ty.enc) y.2.2.1 y.2.2.2) (fun y=>l.length - y.1) ?_ (0,[],.Ad,τ) ⟨by simp,rfl,rfl,CC.nil _ _ _⟩
 rintro ⟨i,us,uv,τ1⟩ ⟨hi,hlu,hok,ho⟩ ih2;simp only at hi hlu hok ho;by_cases hlt:i < l.length
 . obtain ⟨x,Z⟩:=Ai hlt;have he:=BI (enc:=TE.enc) Z;have hw1:=wsu i
   have hall:DA (Fl dl) vars l=(DA (Fl dl) vars (x::l.drop (i+1))).map (us++·):=by
    conv=>lhs;rw [<- A7 i l,By Z]
    exact UC _ _ _ hok
   have hsn:DA (Fl dl) vars (l.take (i+1))=(DA (Fl dl) vars [x]).map (us++·):=by
    rw [A5 Z];exact UC _ _ _ hok
   rw [DA] at hall;rw [DA,DA] at hsn;have hc:=ih x (AD Z) τ1 (hrb.le ho.le);cases hr:Io (Fl dl) vars false x with
   |error e=>
    rw [hr] at hc hall;have hne:=gJ x false e hr;have hne':(e != 0)=true:=by simpa using hne
    obtain ⟨xk,xn,xl⟩:=x;simp only [TE.A4,teA,AF,AN,Y6] at he hc;(repeat' ((first|refine wQ ?_|(refine Run.Bg GZ ho.le ?_)|refine AI.det (hc) ?_|fail)<;>try simp only [Ap hlt,he,hne',go_sem]));rw [hall];rfl
   |ok u=>
    rw [hr] at hc hsn;simp only [C4] at hsn;obtain ⟨uk,un,ul⟩:=u;obtain ⟨xk,xn,xl⟩:=x;simp only [TE.A4,teA,AF,AN,Y6,tyA,Ty.enc] at he hc;have h00:((0:Int) != 0)=false:=by decide
    (repeat' ((first|refine wQ ?_|(refine Dh.own ho rfl (by simp) (by simp;omega) (by decide) (fun v2 σ2 ho2 hbk=>?_))|refine AI.det (hc) ?_|fail)<;>try simp only [Ap hlt,he,h00,ho.w4,go_sem]));simp only [ho2.cells,ho2.cell,go_sem];(repeat' (refine wQ ?_<;>try simp only [hw1,go_sem]));exact ih2 (i+1,us++[.mk uk un ul],v2,σ2) ⟨by simp only;omega,by simp [hlu],hsn,by simpa [Ty.enc] using ho2⟩ (by simp only;omega)
 . rw [AP (by omega)] at hok;(repeat' ((first|refine wQ ?_|(refine Run.Bg GZ ho.le ?_)|fail)<;>try simp only [B7 hlt,ho.cell,go_sem]));rw [ho.plain,hok];simp [Y6,tyA,Ty.enc,Ty.Bf,C4]
def AT9 {d:Dat} (h:dl[i]?=some d):(Fl dl).getD i ([],0)=(d.name,d.vars.toNat):=by
 rw [A2,Fl,Am,h];rfl
def qQ (dl:List Dat):(Fl dl).map (·.1)=Ly dl:=by simp [Fl,Ly]
def AL3 (h:DP (Ly dl) s=some i):∃d,dl[i]?=some d:=by
 have:=PL h;rw [Ly,Am,AK] at this;obtain ⟨d,hd,_⟩:=this;exact ⟨d,hd⟩
def AIV (jr:Nat) (dl:List Dat) (hdl:dl.length<=1000000) (hnn:∀d∈dl,0<=d.vars) (nm:Str) (vars:List Str) (cs:List CE):
 ∀(N:Nat) (t:TE) (whole:Bool) (τ:AH),t.size<=N->t.size<=1000000->RB τ jr dl nm vars cs->AR Tzp 130 [.gp jr 0,teA t,.d (.bool whole)] τ (fun v σ'=>v=Y6 (Io (Fl dl) vars whole t)/\σ'=τ):=by
 intro N
 induction N with
 |zero=>intro t whole τ h;have:=TE.size_pos t;omega
 |succ N ihN=>
 rintro ⟨k,n,l⟩ whole τ hN hsz hrb;simp only [TE.size] at hN hsz;have hlen:=TE.Bx l
 have hloop:=fun num=>ABE jr dl nm vars cs k num l τ hrb (by omega) (fun x Z τ' h=>by
  have:=TE.Im Z;exact ihN x false τ' (by omega) (by omega) h)
 clear ihN;obtain ⟨dv,hb,hdv⟩:=hrb;refine SY (by simp) ?_;rw [DK,teA,TE.A4];by_cases h4:k=4
 . subst h4
   have hres:Io (Fl dl) vars whole (.mk 4 n l)=match DP vars n with|none=>.error 3|some i=>(DA (Fl dl) vars l).map (Ty.mk 4 i):=by
    rw [Io,if_pos rfl];rfl
   have hi:=Vq vars n τ;cases hix:DP vars n with
   |none=>
    rw [hix] at hi hres;simp only [HQ] at hi hres;have hneg:decide ((-1:Int) < 0)=true:=by decide
    (repeat' ((first|refine wP ?_|refine AI.det (hi) ?_|fail)<;>try simp only [hb,hneg,go_sem]));rw [hres];rfl
   |some i=>
    rw [hix] at hi hres;simp only [HQ] at hi hres;have hneg:decide ((i:Int) < 0)=false:=decide_eq_false (by omega);rw [hres];(repeat' ((first|refine wQ ?_|refine AI.det (hi) ?_|fail)<;>try simp only [hb,hneg,AA,go_sem]));exact hloop i
 by_cases h5:k=5
 . subst h5
   have hres:Io (Fl dl) vars whole (.mk 5 n l)=match DP (Ly dl) n with|none=>.error 3|some i=>if l.length≠((Fl dl).getD i ([],0)).2 then .error 5 else if i+1=(Fl dl).length/\¬(whole=true/\Fy l vars=true) then .error 7 else (DA (Fl dl) vars l).map (Ty.mk 5 i):=by
    rw [Io,if_neg h4,if_pos rfl,qQ];rfl
   have hf:=AJ6 dl dv _ jr n τ hdl hb hdv;have hpar:=wL l dv nm vars cs jr τ (by omega) hb;cases hix:DP (Ly dl) n with
   |none=>
    rw [hix] at hf hres;simp only [HQ] at hf hres;have hneg:decide ((-1:Int) < 0)=true:=by decide
    (repeat' ((first|refine wP ?_|refine AI.det (hf) ?_|fail)<;>try simp only [Aa,hneg,go_sem]));rw [hres];rfl
   |some i=>
    obtain ⟨d,hd⟩:=AL3 hix;have hil:=(AE.1 hd).1;have hdn:=hnn d (AD hd);rw [hix] at hf hres;simp only [HQ] at hf hres;rw [AT9 hd] at hres;have hneg:decide ((i:Int) < 0)=false:=decide_eq_false (by omega);rcases hdv with ⟨rfl,_⟩|⟨jd,e,cells,rfl,hbd,hrows⟩
    . simp at hil
    obtain ⟨cv,_,_,_,g1,_,_⟩:=hrows.at hd;have hixx:((i:Int) < (dl.length:Int))=True:=by simp;omega
    have hcmp:((l.length:Int) != d.vars)=decide (l.length≠d.vars.toNat):=by
     rw [Ak];simp only [bne_iff_ne,ne_eq,decide_eq_true_eq];omega
    by_cases hA:l.length≠d.vars.toNat
    . rw [decide_eq_true hA] at hcmp;rw [if_pos hA] at hres;(repeat' ((first|refine wP ?_|refine AI.det (hf) ?_|fail)<;>try simp only [Aa,hb,hneg,AA,hixx,hbd,g1,hcmp,go_sem]));rw [hres];rfl
    . rw [decide_eq_false hA] at hcmp;rw [if_neg hA] at hres;have hw1:IntKind.i64.wrap ((dl.length:Int) - 1)=((dl.length - 1:Nat):Int):=by rw [D4 (by omega) (by omega)];omega
      have hlast:((i:Int)==((dl.length - 1:Nat):Int))=decide (i+1=(Fl dl).length):=by
       rw [Ak];simp only [beq_iff_eq,decide_eq_true_eq,Fl,AA];omega
      by_cases hB:i+1=(Fl dl).length
      . rw [decide_eq_true hB] at hlast;cases whole with
        |false=>
         rw [if_pos ⟨hB,by simp⟩] at hres;(repeat' ((first|refine wP ?_|refine AI.det (hf) ?_|fail)<;>try simp only [Aa,hb,hneg,AA,hixx,hbd,g1,hcmp,hw1,hlast,go_sem]));rw [hres];rfl
        |true=>
         cases hC:Fy l vars with
         |false=>
          rw [hC] at hpar;rw [if_pos ⟨hB,by simp [hC]⟩] at hres;(repeat' ((first|refine wP ?_|refine AI.det (hf) ?_|refine AI.det (hpar) ?_|fail)<;>try simp only [Aa,hb,hneg,AA,hixx,hbd,g1,hcmp,hw1,hlast,go_sem]));rw [hres];rfl
         |true=>
          rw [hC] at hpar;rw [if_neg (by simp [hC])] at hres;rw [hres];(repeat' ((first|refine wQ ?_|refine AI.det (hf) ?_|refine AI.det (hpar) ?_|fail)<;>try simp only [Aa,hb,hneg,AA,hixx,hbd,g1,hcmp,hw1,hlast,go_sem]));exact hloop i
      . rw [decide_eq_false hB] at hlast;rw [if_neg (fun h=>hB h.1)] at hres;rw [hres];(repeat' ((first|refine wQ ?_|refine AI.det (hf) ?_|fail)<;>try simp only [Aa,hb,hneg,AA,hixx,hbd,g1,hcmp,hw1,hlast,go_sem]));exact hloop i
 . have hres:Io (Fl dl) vars whole (.mk k n l)=(DA (Fl dl) vars l).map (Ty.mk k 0):=by rw [Io,if_neg h4,if_neg h5]
   rw [hres];(repeat' (refine wQ ?_<;>try simp only [Cf h4,Cf h5,AA,go_sem]));exact hloop 0
def CC.up {s:Nat} {rows:List (List DV)} (h:CC Y e s rows v τ) (hl:τ.le τ'):CC Y e s rows v τ':=by
 obtain ⟨σ1,ha,hle⟩:=h.app;refine ⟨?_,AH.le_trans h.le hl,h.plain,h.len,h.cell,h.BS,h.CL,h.dv,h.cells⟩;unfold O2 at ha ⊢;split at ha
 . cases ha;exact ⟨τ',rfl,AH.le_trans hle hl⟩
 . rename_i t e' s' rows';split at ha
   . rename_i hc;cases ha;refine ⟨τ'.CP t,if_pos ⟨hc.1,hc.2.1,hl.tok t hc.2.2⟩,?_⟩;refine ⟨fun i cs hi=>hl.blk i cs (hle.blk i cs hi),fun t' ht'=>?_,hle.gt.trans hl.gt,fun i x Z=>hl.bt i x (hle.bt i x Z)⟩;have h1:=hle.tok t' ht';by_cases he:t'=t
     . subst he;simp [AH.CP] at h1
     . simp only [AH.CP,if_neg he] at h1 ⊢;exact hl.tok t' h1
   . cases ha
 . cases ha
def CC.set {s:Nat} {rows:List (List DV)} (h:CC Y e s rows v τ) {j:Nat} (hj:Y.blk j=none) (cs:List AV):CC Y e s rows v (τ.AL j cs):=by
 obtain ⟨σ1,ha,hle⟩:=h.app;refine ⟨?_,EC h.le hj,h.plain,h.len,h.cell,h.BS,h.CL,h.dv,h.cells⟩;unfold O2 at ha ⊢;split at ha
 . cases ha;exact ⟨_,rfl,EC hle hj⟩
 . rename_i t e' s' rows';split at ha
   . rename_i hc;cases ha;exact ⟨(τ.AL j cs).CP t,if_pos hc,EC hle hj⟩
   . cases ha
 . cases ha
def CC.slv {s:Nat} {rows:List (List DV)} (h:CC Y e s rows v τ):SlV v rows:=by
 obtain ⟨σ1,ha,hle⟩:=h.app;unfold O2 at ha;split at ha
 . cases ha;exact .inr (.inr ⟨rfl,rfl⟩)
 . split at ha
   . cases ha;exact .inr (.inl ⟨_,_,_,rfl⟩)
   . cases ha
 . cases ha
def dV (dl:List Dat) (hdt:uS dl) (hl:dl.length<=1000000) (jd e:Nat) (cells:List AV) (s:Str) (Y:AH) (hb:Y.blk jd=some cells) (hrows:Kd cells dl):
 AR Tzp 129 [.ms jd dl.length 3 e,.d (.str s)] Y (fun v σ'=>v=qM (El dl s)/\σ'=Y):=by
 refine OQ (by simp) ?_;rw [BD];(repeat' (refine wQ ?_<;>try simp only [go_sem]));refine Run.BB ?_;refine Run.BE ((fun (a0:AV) (a1:AV) (a10:AV)=>fun (i:Nat)=>put 0 a0 (put 1 a1 (put 10 a10 (put 11 (.d (.int .i64 i)) U)))) _ _ _) (fun _=>E) (fun _=>Y) (fun i=>i<=dl.length/\∀d∈dl.take i,JC d.cons s=none) (fun i=>dl.length - i) ?_ 0 ⟨by simp,by simp⟩;rintro i ⟨hi,hno⟩ ih;by_cases hlt:i < dl.length
 . obtain ⟨d,hd⟩:=Ai hlt;obtain ⟨cv,_,hsl,_,_,g2,_⟩:=hrows.at hd;have hix:((i:Int) < (dl.length:Int))=True:=by simp;omega
   have hw1:=wsu i;have hdl:=hdt d (AD hd);have hat:=fun k=>AJV (k:=k) hno hd;rw [<- Lx] at hat;have hnext:=fun (h:JC d.cons s=none)=>F7 (p:=fun d:Dat=>(JC d.cons s).isSome) (i:=i) (fun y hy=>by simp [hno y hy]) hd (by rw [h];rfl);obtain ⟨dn,dv,cs⟩:=d;simp only at *;have hlen:=hsl.len;rw [AA] at hlen;have hcell:=hsl.cell;(repeat' (refine wQ ?_<;>try simp only [hix,hb,g2,hcell,hlen,go_sem]));refine Run.BB ?_;refine Run.BE ((fun (a0:AV) (a1:AV) (a7:AV) (a10:AV) (a11:AV) (a19:AV)=>fun (k:Nat)=>put 0 a0 (put 1 a1 (put 7 a7 (put 10 a10 (put 11 a11 (put 19 a19 (put 20 (.d (.int .i64 k)) U))))))) _ _ _ _ _ _) (fun _=>E) (fun _=>Y) (fun k=>k<=cs.length/\∀c∈cs.take k,(c.name==s)=false) (fun k=>cs.length - k) ?_ 0 ⟨by simp,by simp⟩;rintro k ⟨hk,hnk⟩ ih2;by_cases hkl:k < cs.length
   . obtain ⟨c,hc⟩:=Ai hkl;have hec:=ZB hc;have hwk:=wsu k
     have hne:List.map Con.enc cs≠[]:=by
      intro h;rw [h] at hec;simp at hec
     cases hs:(c.name==s) with
     |true=>
      have hfin:=hat k (Dj (p:=fun c:Con=>c.name==s) hnk hc hs);clear hat hnext ih ih2;rcases hsl with rfl|⟨t',e',s',rfl⟩|⟨h0,_⟩
      . (repeat' (refine wP ?_<;>try simp only [Ap hkl,hix,hb,g2,hec,CA,hs,go_sem]));rw [hfin];rfl
      . (repeat' (refine wP ?_<;>try simp only [Ap hkl,hix,hb,g2,hec,CA,hs,go_sem]));rw [hfin];rfl
      . exact absurd h0 hne
     |false=>
      have hgo:=ih2 (k+1) ⟨by omega,F7 (p:=fun c:Con=>c.name==s) hnk hc hs⟩ (by omega);clear hat hnext ih ih2;rcases hsl with rfl|⟨t',e',s',rfl⟩|⟨h0,_⟩
      . (repeat' (refine wQ ?_<;>try simp only [Ap hkl,hix,hb,g2,hec,hwk,CA,hs,go_sem]));exact hgo
      . (repeat' (refine wQ ?_<;>try simp only [Ap hkl,hix,hb,g2,hec,hwk,CA,hs,go_sem]));exact hgo
      . exact absurd h0 hne
   . rw [AP (by omega)] at hnk;(repeat' (refine wQ ?_<;>try simp only [B7 hkl,hw1,go_sem]));refine ih (i+1) ⟨by omega,fun y hy=>?_⟩ (by omega);have:=hnext (by rw [<- Lx,Dk (p:=fun c:Con=>c.name==s) hnk]) y hy;simpa using this
 . (repeat' (refine wP ?_<;>try simp only [B7 hlt,go_sem]));rw [AP (by omega)] at hno;rw [AJW hno];rfl
def JY (dl:List Dat):List Str:=dl.flatMap fun d=>d.cons.map (·.name)
def AGT (l:List Con) (s:Str):(JC l s).isSome=(l.map (·.name)).contains s:=by
 rw [<- NI,<- Lx,<- To,List.findIdx?_map];rfl
def xU (s:Str):∀dl:List Dat,(El dl s).isSome=(JY dl).contains s
 |[]=>rfl
 |d::l=>by
  have h1:=AGT d.cons s;have h2:=xU s l
  have h3:(JY (d::l)).contains s=((d.cons.map (·.name)).contains s||(JY l).contains s):=by
   simp only [JY,DJ];rw [Ak];simp only [Ar,AZ,Cb]
  rw [h3,<- h1,<- h2,El];cases JC d.cons s<;>simp
def XEx.AaN {K:CW} {σ1:AH} {d:Option Nat} {s n2 e2:Nat} {p:AV} {cs2:List AV} (hb:Y.blk i=some cs2) (h1:cs2.length=n2 * s) (hn2:n2≠0) (hbd:n+n2<=1000000000)
 (hpa:OI Y e s p=some (n,cs,σ1)) (hnp:p.BS=true) (h:∀j,Y.blk j=none->K (BL d (.ms j (n+n2) s e) F) L (σ1.AL j (cs++cs2))):XEx (.ACF e s) [p,.ms i n2 s e2] d K F L Y:=
 ⟨by simp [hnp,AKL],by cases p<;>exact ⟨rfl,cs2,n,cs,σ1,hb,h1,hn2,hbd,hpa,h⟩⟩
abbrev eD:Nat:=129
def DlX (σ0:AH) (jr:Nat) (τ:AH) (dl:List Dat) (v:AV):Prop:=(dl=[]/\v= .Ad)\/(∃jd cs,v= .ms jd dl.length 3 eD/\σ0.blk jd=none/\jd≠jr/\τ.blk jd=some cs/\Kd cs dl)
def DlX.dls (h:DlX σ0 jr τ dl v):DlS τ dl v:=by
 rcases h with h|⟨jd,cs,h1,_,_,h2,h3⟩
 . exact .inl h
 . exact .inr ⟨jd,_,cs,h1,h2,h3⟩
def DlX.app (h:DlX σ0 jr τ dl v) (hle:σ0.le τ) (hjr:τ.blk jr≠none) (row:List AV):
 ∃cs,Kd cs dl/\∀i,τ.blk i=none->∃σ1,OI (τ.AL i row) eD 3 v=some (dl.length,cs,σ1)/\σ0.le σ1/\σ1.blk jr=τ.blk jr:=by
 have hi0:∀i,τ.blk i=none->σ0.blk i=none/\i≠jr:=fun i hi=>by
  refine ⟨?_,fun e=>hjr (e ▸ hi)⟩;cases hc:σ0.blk i with
  |none=>rfl
  |some c=>rw [hle.blk i c hc] at hi;cases hi
 rcases h with ⟨rfl,rfl⟩|⟨jd,cs,rfl,h0,hne,hb,hr⟩
 . refine ⟨[],⟨rfl,by simp⟩,fun i hi=>⟨_,rfl,EC hle (hi0 i hi).1,?_⟩⟩;rw [AJ,if_neg (A6 (hi0 i hi).2)]
 . refine ⟨cs,hr,fun i hi=>⟨(τ.AL i row).Cs jd,?_,?_,?_⟩⟩
   . have hji:jd≠i:=fun e=>by rw [e,hi] at hb;cases hb
     simp [OI,AJ,hji,hb,hr.1]
   . refine ⟨fun q c hq=>?_,hle.tok,hle.gt,hle.bt⟩;have hq1:q≠jd:=fun e=>by rw [e,h0] at hq;cases hq
     have hq2:q≠i:=fun e=>by rw [e,(hi0 i hi).1] at hq;cases hq
     simp only [AH.Cs,if_neg hq1,AJ,if_neg hq2];exact hle.blk q c hq
   . simp only [AH.Cs,if_neg (A6 hne),AJ,if_neg (A6 (hi0 i hi).2)]
structure APS (σ0:AH) (jr:Nat) (dl:List Dat) (nm:Str) (k:Int) (cv x1 x2 x3:AV) (jd:Nat) (cs:List AV) (τ:AH):Prop where
 res:τ.blk jr=some [.ms jd (dl.length+1) 3 eD,x1,x2,x3]
 nb:σ0.blk jd=none
 ne:jd≠jr
 row:τ.blk jd=some (cs++[.d (.str nm),.d (.int .i64 k),cv])
 ok:Kd cs dl
 le:σ0.le τ
def Kd.snoc (h:Kd cs dl) (nm:Str) (k:Int) (cv:AV) (cons:List Con) (hcv:SlV cv (cons.map Con.enc)):Kd (cs++[.d (.str nm),.d (.int .i64 k),cv]) (dl++[⟨nm,k,cons⟩]):=by
 refine ⟨by simp [h.1];omega,fun i d hd=>?_⟩;rcases C8 i dl.length with hi|hi
 . rw [BC hi] at hd;obtain ⟨cv',h1,h2⟩:=h.2 i d hd;refine ⟨cv',?_,h2⟩;rw [List.drop_append_of_le_length (by rw [h.1];omega),XH (by rw [Df,h.1];omega)];exact h1
 . have:i=dl.length:=by
    have:=(AE.1 hd).1;simp at this;omega
   subst this;rw [As (AS _),Nat.sub_self] at hd;simp only [Aw,AM] at hd;subst hd;refine ⟨cv,?_,hcv⟩;rw [<- h.1,List.drop_left];rfl
def TJ (ds:List (Str×Nat)) (vars:List Str) (m:List TE):∀ {l:List TE} {us:List Ty},EB ds vars l= .ok us->EB ds vars (l++m)=(EB ds vars m).map (us++·)
 |[],us,h=>by
  simp only [EB,EN] at h;subst h;simp only [Ag];cases EB ds vars m<;>rfl
 |t::l,us,h=>by
  rw [EB] at h;rw [AX,EB];cases ht:Io ds vars true t with
  |error e=>rw [ht] at h;cases h
  |ok u=>
   rw [ht] at h;simp only at h ⊢;cases hl:EB ds vars l with
   |error e=>rw [hl] at h;cases h
   |ok ys=>
    rw [hl] at h;simp only [C4,EN] at h;subst h;rw [TJ ds vars m hl];cases EB ds vars m<;>rfl
def PK (ds:List (Str×Nat)) (vars:List Str) (m:List CE):∀ {l:List CE} {used:List Str} {us:List Con},FX ds vars used l= .ok us->FX ds vars used (l++m)=(FX ds vars (used++l.map (·.name)) m).map (us++·)/\us.map (·.name)=l.map (·.name)
 |[],used,us,h=>by
  simp only [FX,EN] at h;subst h;simp only [Ag,AN,Bu,and_true];cases FX ds vars used m<;>rfl
 |c::l,used,us,h=>by
  rw [FX] at h;rw [AX,FX];split at h
  . cases h
  . rename_i hu;rw [if_neg hu];cases ht:EB ds vars c.args with
    |error e=>rw [ht] at h;cases h
    |ok ts=>
     rw [ht] at h;simp only at h ⊢;cases hl:FX ds vars (used++[c.name]) l with
     |error e=>rw [hl] at h;cases h
     |ok ys=>
      rw [hl] at h;simp only [C4,EN] at h;subst h;obtain ⟨h1,h2⟩:=PK ds vars m hl;rw [h1,Aq];refine ⟨?_,by simp [h2]⟩;simp only [AF,List.singleton_append];cases FX ds vars (used++c.name::l.map (·.name)) m<;>rfl
def AC7 (σ0:AH) (jr:Nat) (dl:List Dat) (hdl:dl.length<=1000) (nm:Str) (vs:List Str) (cs:List CE) (τ:AH) (dv x1 x2 x3:AV) (hb:τ.blk jr=some [dv,x1,x2,x3]) (Z:x1.B1=true/\x2.B1=true/\x3.B1=true)
 (hv:DlX σ0 jr τ dl dv) (hle:σ0.le τ) (hjr:σ0.blk jr=none) (K:CW)
 (hK:∀F' L' σ' jd cells,Gw [0,3] F'=put 0 (.gp jr 0) (put 3 (.lp 3 0) U)->Fp [0,3] L'=At 3 [.d (.str nm),.d (.sl (vs.map BX)),.d (.sl (cs.map CE.enc))] E->APS σ0 jr dl nm vs.length .Ad x1 x2 x3 jd cells σ'->K F' L' σ'):
 XT Tzp K false (.one ⟨some 26,.mv (.t 0),none⟩ (.one ⟨some 27,.mv (.t 0),none⟩ (.one ⟨some 28,.nck (.t 27),none⟩ (.one ⟨some 29,.fld (.t 28) 0,none⟩ (.one ⟨some 31,.fld (.t 3) 0,none⟩ (.one ⟨some 32,.ldl (.t 31) none,none⟩ (.one ⟨some 33,.fld (.t 3) 1,none⟩ (.one ⟨some 34,.ldl (.t 33) none,none⟩ (.one ⟨some 35,.len (.t 34),none⟩ (.one ⟨some 36,.bld [(.d (.str [])),(.d (.int .i64 0)),.Ad] [(0,1,(.t 32)),(1,1,(.t 35))],none⟩ (.alt ⟨some 30,.ld (.t 29) none,none⟩ (.one ⟨some 37,.mW 129 3 1 [(.d (.str [])),(.d (.int .i64 0)),.Ad] [(0,3,(.t 36))],none⟩ (.one ⟨some 38,.ex (.ACF 129 3) [(.t 30),(.t 37)],none⟩ (.one ⟨some 39,.nck (.t 26),none⟩ (.one ⟨some 40,.fld (.t 39) 0,none⟩ (.one ⟨none,.st (.t 40) (.t 38) 1,none⟩ .done))))) (.alt ⟨some 37,.mW 129 3 1 [(.d (.str [])),(.d (.int .i64 0)),.Ad] [(0,3,(.t 36))],none⟩ (.one ⟨some 30,.ld (.t 29) none,none⟩ (.one ⟨some 38,.ex (.ACF 129 3) [(.t 30),(.t 37)],none⟩ (.one ⟨some 39,.nck (.t 26),none⟩ (.one ⟨some 40,.fld (.t 39) 0,none⟩ (.one ⟨none,.st (.t 40) (.t 38) 1,none⟩ .done))))) .done)))))))))))) (put 0 (.gp jr 0) (put 3 (.lp 3 0) (put 25 (.d (.bool false)) U))) (At 3 [.d (.str nm),.d (.sl (vs.map BX)),.d (.sl (cs.map CE.enc))] E) τ:=by
 have hcell:dv.B1=true:=by rcases hv with ⟨_,rfl⟩|⟨jd,cs,rfl,_⟩<;>rfl
 have hnl:dv.BS=true:=by rcases hv with ⟨_,rfl⟩|⟨jd,cs,rfl,_⟩<;>rfl
 have hjn:∀i,τ.blk i=none->i≠jr:=fun i hi e=>by rw [e,hb] at hi;cases hi
 have hi0:∀i,τ.blk i=none->σ0.blk i=none:=fun i hi=>by
  cases hc:σ0.blk i with
  |none=>rfl
  |some c=>rw [hle.blk i c hc] at hi;cases hi
 obtain ⟨cells,hrows,happ⟩:=hv.app hle (by rw [hb];simp) [.d (.str nm),.d (.int .i64 (vs.length:Int)),.Ad]
 -- what both orders end with
 have hend:∀(i:Nat) (σ1:AH) (j:Nat),τ.blk i=none->OI (τ.AL i [.d (.str nm),.d (.int .i64 (vs.length:Int)),.Ad]) eD 3 dv=some (dl.length,cells,σ1)->σ0.le σ1->σ1.blk jr=τ.blk jr->(τ.AL i [.d (.str nm),.d (.int .i64 (vs.length:Int)),.Ad]).blk j=none->
  APS σ0 jr dl nm vs.length .Ad x1 x2 x3 j cells ((σ1.AL j (cells++[.d (.str nm),.d (.int .i64 (vs.length:Int)),.Ad])).AL jr [.ms j (dl.length+1) 3 eD,x1,x2,x3]):=fun i σ1 j hi _ hl1 hb1 hj=>by
  have hji:j≠i:=fun e=>by rw [e,AJ,if_pos rfl] at hj;cases hj
  rw [AJ,if_neg hji] at hj;have hjr':=hjn j hj;refine ⟨BT,hi0 j hj,hjr',by rw [AJ,if_neg hjr',AJ,if_pos rfl],hrows,EC (EC hl1 (hi0 j hj)) hjr⟩
 simp only [hb,hcell,AA,go_sem];refine ⟨XK.mk (fun i hi=>?_),XK.mk (fun i hi=>?_)⟩
 . obtain ⟨σ1,ha,hl1,hb1⟩:=happ i hi;have hij:=hjn i hi;have hji:(jr=i)=False:=by simp only [eq_iff_iff,iff_false];exact fun e=>hij e.symm
   simp only [go_sem];refine XEx.AaN (cs2:=[.d (.str nm),.d (.int .i64 (vs.length:Int)),.Ad]) (by simp only [AJ,if_true]) rfl (by simp) (by omega) ha hnl (fun j hj=>?_)
   have hjj:(jr=j)=False:=by
    simp only [eq_iff_iff,iff_false];intro e;rw [<- e,AJ,if_neg (fun e=>hij e.symm),hb] at hj;cases hj
   have hfin:=hend i σ1 j hi ha hl1 hb1 hj;rw [hb] at hb1;simp only [hjj,hb1,go_sem];exact hK _ _ _ j cells (by simp only [go_sem]) (by simp only [go_sem]) hfin
 . obtain ⟨σ1,ha,hl1,hb1⟩:=happ i hi;have hij:=hjn i hi;have hji:(jr=i)=False:=by simp only [eq_iff_iff,iff_false];exact fun e=>hij e.symm
   simp only [hb,hcell,hji,go_sem];refine XEx.AaN (cs2:=[.d (.str nm),.d (.int .i64 (vs.length:Int)),.Ad]) (by simp only [AJ,if_true]) rfl (by simp) (by omega) ha hnl (fun j hj=>?_)
   have hjj:(jr=j)=False:=by
    simp only [eq_iff_iff,iff_false];intro e;rw [<- e,AJ,if_neg (fun e=>hij e.symm),hb] at hj;cases hj
   have hfin:=hend i σ1 j hi ha hl1 hb1 hj;rw [hb] at hb1;simp only [hjj,hb1,go_sem];exact hK _ _ _ j cells (by simp only [go_sem]) (by simp only [go_sem]) hfin
def DQ (σ0:AH) (jr:Nat) (dl:List Dat) (r:Except Int Dat) (v:AV) (σ':AH):Prop:=match r with
 | .error e=>v= .d (.int .i64 e)/\e≠0/\σ0.le σ'
 | .ok x=>v= .d (.int .i64 0)/\σ0.le σ'/\∃dv y1 y2 y3,σ'.blk jr=some [dv,y1,y2,y3]/\(y1.B1=true/\y2.B1=true/\y3.B1=true)/\DlX σ0 jr σ' (dl++[x]) dv
def ACG {ds:List (Str×Nat)} {vars:List Str}:∀ {l:List TE} {e:Int},EB ds vars l= .error e->e≠0
 |[],e,h=>by cases h
 |t::l,e,h=>by
  rw [EB] at h;cases ht:Io ds vars true t with
  |error e'=>rw [ht] at h;cases h;exact gJ t true _ ht
  |ok u=>
   rw [ht] at h;cases hl:EB ds vars l with
   |error e'=>rw [hl] at h;cases h;exact ACG hl
   |ok us=>rw [hl] at h;cases h
def AO0 (l m:List Dat):JY (l++m)=JY l++JY m:=by simp [JY]
abbrev eC:Nat:=131
def AaH (σ0:AH) (jr:Nat) (dl:List Dat) (nm:Str) (vs:List Str) (cs:List CE) (jd:Nat) (cells:List AV) (p:Nat) (us:List Con) (F':Fm) (L':Lm) (σ':AH):Prop:=
 Gw [0,5,52,53,54] F'=put 0 (.gp jr 0) (put 5 (.d (.int .i64 (dl.length:Int))) (put 52 (.d (.sl (cs.map CE.enc))) (put 53 (.d (.int .i64 cs.length)) (put 54 (.d (.int .i64 p)) U))))/\Fp [0,5,52,53,54] L'=E/\
  ∃cv',APS σ0 jr dl nm vs.length cv' (.d (.str nm)) (.d (.sl (vs.map BX))) (.d (.sl (cs.map CE.enc))) jd cells σ'/\CC σ0 eC 2 (us.map Con.enc) cv' σ'
def AGW (σ0:AH) (jr:Nat) (dl:List Dat) (hdl:dl.length<=1000) (hnn:∀d∈dl,0<=d.vars) (hdt:uS dl) (nm:Str) (vs:List Str) (cs:List CE) (hcs:cs.length<=1000) (hsm:∀c∈cs,ZQ c/\c.args.length<=1000)
 (τ:AH) (jd:Nat) (cells:List AV) (hjr:σ0.blk jr=none) (haps:APS σ0 jr dl nm vs.length .Ad (.d (.str nm)) (.d (.sl (vs.map BX))) (.d (.sl (cs.map CE.enc))) jd cells τ):
 Run DL (DQ σ0 jr dl ((FX (Fl dl++[(nm,vs.length)]) vs (JY dl) cs).map (⟨nm,vs.length,·⟩))) [.code (.loop Hh),.blk 0,.code (.seq (.reg [⟨some 4,.mv (.c (.d (.int .i64 0))),none⟩] [4]) .ret)]
  (put 0 (.gp jr 0) (put 5 (.d (.int .i64 (dl.length:Int))) (put 52 (.d (.sl (cs.map CE.enc))) (put 53 (.d (.int .i64 cs.length)) (put 54 (.d (.int .i64 0)) U))))) E τ:=by
 generalize hQ:DQ σ0 jr dl ((FX (Fl dl++[(nm,vs.length)]) vs (JY dl) cs).map (⟨nm,vs.length,·⟩))=Q
 have herr:∀(e:Int) (σ':AH),FX (Fl dl++[(nm,vs.length)]) vs (JY dl) cs= .error e->e≠0->σ0.le σ'->Q (.d (.int .i64 e)) σ':=fun e σ' h hne hl=>by
  rw [<- hQ,h];exact ⟨rfl,hne,hl⟩
 have hfin:∀(us:List Con) (cv:AV) (σ':AH),FX (Fl dl++[(nm,vs.length)]) vs (JY dl) cs= .ok us->SlV cv (us.map Con.enc)->APS σ0 jr dl nm vs.length cv (.d (.str nm)) (.d (.sl (vs.map BX))) (.d (.sl (cs.map CE.enc))) jd cells σ'->Q (.d (.int .i64 0)) σ':=fun us cv σ' h hsl ha=>by
  rw [<- hQ,h];refine ⟨rfl,ha.le,_,_,_,_,ha.res,⟨rfl,rfl,rfl⟩,.inr ⟨jd,_,by rw [AY];rfl,ha.nb,ha.ne,ha.row,ha.ok.snoc nm _ cv us hsl⟩⟩
 clear hQ;refine Run.BB ?_
 refine Run.BE ((fun (a0:AV) (a5:AV) (a52:AV) (a53:AV)=>fun (y:Nat×List Con×AV×AH)=>put 0 a0 (put 5 a5 (put 52 a52 (put 53 a53 (put 54 (.d (.int .i64 y.1)) U))))) _ _ _ _) (fun _=>E) (fun y=>y.2.2.2)
  (fun y=>y.1<=cs.length/\y.2.1.length=y.1/\FX (Fl dl++[(nm,vs.length)]) vs (JY dl) (cs.take y.1)= .ok y.2.1/\APS σ0 jr dl nm vs.length y.2.2.1 (.d (.str nm)) (.d (.sl (vs.map BX))) (.d (.sl (cs.map CE.enc))) jd cells y.2.2.2/\CC σ0 eC 2 (y.2.1.map Con.enc) y.2.2.1 y.2.2.2)
  (fun y=>cs.length - y.1) ?_ (0,[],.Ad,τ) ⟨by simp,rfl,rfl,haps,⟨⟨τ,rfl,haps.le⟩,haps.le,rfl,rfl,rfl,rfl,fun _=>rfl,rfl,rfl⟩⟩
 rintro ⟨p,us,cv,τ1⟩ ⟨hp,hlu,hok,haps,hown⟩ ih;simp only at hp hlu hok haps hown;by_cases hlt:p < cs.length
 . obtain ⟨c,hc⟩:=Ai hlt;have he:=BI (enc:=CE.enc) hc;have hw1:=wsu p;obtain ⟨hall,hnames⟩:=PK (Fl dl++[(nm,vs.length)]) vs (cs.drop p) hok;rw [A7,By hc] at hall;obtain ⟨hsn,_⟩:=PK (Fl dl++[(nm,vs.length)]) vs [c] hok;rw [<- A5 hc] at hsn;obtain ⟨hcsm,hcal⟩:=hsm c (AD hc)
   -- the rows with the partial declaration
   have hrows:=haps.ok.snoc nm (vs.length:Int) cv us hown.slv;have hlp:(dl++[(⟨nm,(vs.length:Int),us⟩:Dat)]).length=dl.length+1:=by simp
   have husl:us.length<=1000000:=by omega
   have hdtp:uS (dl++[⟨nm,(vs.length:Int),us⟩]):=fun d hd=>by
    rcases AZ.1 hd with h|h
    . exact hdt d h
    . simp only [A3] at h;subst h;exact husl
   have hnnp:∀d∈dl++[(⟨nm,(vs.length:Int),us⟩:Dat)],0<=d.vars:=fun d hd=>by
    rcases AZ.1 hd with h|h
    . exact hnn d h
    . simp only [A3] at h;subst h;simp
   have hdsp:Fl (dl++[⟨nm,(vs.length:Int),us⟩])=Fl dl++[(nm,vs.length)]:=by simp [Fl]
   have hudp:JY (dl++[⟨nm,(vs.length:Int),us⟩])=JY dl++(cs.take p).map (·.name):=by
    rw [AO0,<- hnames];simp [JY]
   have hctr:=dV (dl++[⟨nm,(vs.length:Int),us⟩]) hdtp (by rw [hlp];omega) jd eD _ c.name τ1 haps.row hrows;have hcu:=xU c.name (dl++[⟨nm,(vs.length:Int),us⟩]);rw [hudp] at hcu;rw [hlp] at hctr;have hRB:RB τ1 jr (dl++[⟨nm,(vs.length:Int),us⟩]) nm vs cs:=⟨_,haps.res,.inr ⟨jd,eD,_,by rw [hlp],haps.row,hrows⟩⟩;have hres:=haps.res;generalize hdlp:dl++[(⟨nm,(vs.length:Int),us⟩:Dat)]=dlp at *;rw [FX] at hall hsn;obtain ⟨cn,ar⟩:=c;simp only [CE.enc] at he hcu hall hsn hctr hcal hcsm;cases hct:El dlp cn with
   |some x=>
    rw [hct] at hctr hcu;simp only [qM,H6] at hctr hcu;rw [<- hcu,if_pos rfl] at hall;(repeat' ((first|refine wR ?_|refine AI.det (hctr) ?_|fail)<;>try simp only [Ap hlt,he,hres,go_sem]));exact herr 4 _ hall (by decide) haps.le
   |none=>
   rw [hct] at hctr hcu;simp only [qM,H5] at hctr hcu;rw [<- hcu,if_neg (by simp)] at hall hsn;(repeat' ((first|refine wQ ?_|refine AI.det (hctr) ?_|fail)<;>try simp only [Ap hlt,he,hres,AA,go_sem]));refine Run.BB ?_
   refine Run.BE ((fun (a0:AV) (a5:AV) (a11:AV) (a52:AV) (a53:AV) (a54:AV) (a74:AV) (a75:AV)=>fun (z:Nat×List Ty×AV×AH)=>put 0 a0 (put 5 a5 (put 11 a11 (put 52 a52 (put 53 a53 (put 54 a54 (put 74 a74 (put 75 a75 (put 76 (.d (.int .i64 z.1)) U))))))))) _ _ _ _ _ _ _ _) (fun z=>At 11 [.d (.str cn),z.2.2.1] E) (fun z=>z.2.2.2)
    (fun z=>z.1<=ar.length/\z.2.1.length=z.1/\EB (Fl dl++[(nm,vs.length)]) vs (ar.take z.1)= .ok z.2.1/\CC τ1 42 3 (z.2.1.map Ty.enc) z.2.2.1 z.2.2.2)
    (fun z=>ar.length - z.1) ?_ (0,[],.Ad,τ1) ⟨by simp,rfl,rfl,CC.nil _ _ _⟩
   rintro ⟨a,ts,uv,τ2⟩ ⟨ha,hlt',hoka,ho⟩ ih2;simp only at ha hlt' hoka ho;by_cases hal:a < ar.length
   . obtain ⟨x,Z⟩:=Ai hal;have hex:=BI (enc:=TE.enc) Z;have hwa:=wsu a;have hxs:=hcsm x (AD Z);have hra:=AIV jr dlp (by omega) hnnp nm vs cs x.size x true τ2 (AS _) hxs (hRB.le ho.le);rw [hdsp] at hra
     have hall2:EB (Fl dl++[(nm,vs.length)]) vs ar=(EB (Fl dl++[(nm,vs.length)]) vs (x::ar.drop (a+1))).map (ts++·):=by
      conv=>lhs;rw [<- A7 a ar,By Z]
      exact TJ _ _ _ hoka
     have hsn2:EB (Fl dl++[(nm,vs.length)]) vs (ar.take (a+1))=(EB (Fl dl++[(nm,vs.length)]) vs [x]).map (ts++·):=by
      rw [A5 Z];exact TJ _ _ _ hoka
     rw [EB] at hall2;rw [EB,EB] at hsn2;cases hr:Io (Fl dl++[(nm,vs.length)]) vs true x with
     |error e=>
      rw [hr] at hra hall2;simp only [C4] at hall2;rw [hall2] at hall;have hne:=gJ x true e hr;have hne':(e != 0)=true:=by simpa using hne
      obtain ⟨xk,xn,xl⟩:=x;simp only [TE.A4,teA,AF,AN,Y6] at hex hra;have hxe:=herr e τ2 hall hne (AH.le_trans haps.le ho.le);(repeat' ((first|refine wR ?_|refine AI.det (hra) ?_|fail)<;>try simp only [Ap hal,hex,hne',go_sem]));exact hxe
     |ok u=>
      rw [hr] at hra hsn2;simp only [C4] at hsn2;obtain ⟨uk,un,ul⟩:=u;obtain ⟨xk,xn,xl⟩:=x;simp only [TE.A4,teA,AF,AN,Y6,tyA,Ty.enc] at hex hra;have h00:((0:Int) != 0)=false:=by decide
      (repeat' ((first|refine wQ ?_|(refine Dh.own ho rfl (by simp) (by simp;omega) (by decide) (fun v2 σ2 ho2 hbk=>?_))|refine AI.det (hra) ?_|fail)<;>try simp only [Ap hal,hex,h00,ho.w4,go_sem]));simp only [ho2.cells,ho2.cell,go_sem];(repeat' (refine wQ ?_<;>try simp only [hwa,go_sem]));exact ih2 (a+1,ts++[.mk uk un ul],v2,σ2) ⟨by simp only;omega,by simp [hlt'],hsn2,by simpa [Ty.enc] using ho2⟩ (by simp only;omega)
   . rw [AP (by omega)] at hoka;rw [hoka] at hall hsn;simp only [FX,C4] at hall hsn;have haps2:APS σ0 jr dl nm vs.length cv (.d (.str nm)) (.d (.sl (vs.map BX))) (.d (.sl (cs.map CE.enc))) jd cells τ2:=⟨ho.le.blk _ _ hres,haps.nb,haps.ne,ho.le.blk _ _ haps.row,haps.ok,AH.le_trans haps.le ho.le⟩;have hown2:=hown.up ho.le;(repeat' (first|refine ctQ rfl ?_|((first|refine rgQ mxQ ?_|refine cdQ ?_)<;>try simp only [B7 hal,go_sem])|fail));have hcl:=haps.ok.1;have hixl:((dl.length:Int) < ((dl.length+1:Nat):Int))=True:=by simp only [eq_iff_iff,iff_true];omega
     have hget:(cells++[AV.d (.str nm),.d (.int .i64 (vs.length:Int)),cv])[dl.length * 3+2]?=some cv:=by
      rw [As (by omega),hcl,RJ];rfl
     have htk:G7 (dl.length * 3+2) (cells++[AV.d (.str nm),.d (.int .i64 (vs.length:Int)),cv])=cells++[AV.d (.str nm),.d (.int .i64 (vs.length:Int))]:=by
      rw [List.take_append,AP (by omega),hcl,RJ];rfl
     have hdr:Fk (dl.length * 3+2+1) (cells++[AV.d (.str nm),.d (.int .i64 (vs.length:Int)),cv])=[]:=by
      rw [KW (by simp;omega)]
     have hlen3:(dl.length * 3+2+1<=(cells++[AV.d (.str nm),.d (.int .i64 (vs.length:Int)),cv]).length)=True:=by simp;omega
     have hend:∀(v3:AV) (σ3:AH) (F':Fm) (L':Lm),Gw [0,5,52,53,54] F'=put 0 (.gp jr 0) (put 5 (.d (.int .i64 (dl.length:Int))) (put 52 (.d (.sl (cs.map CE.enc))) (put 53 (.d (.int .i64 cs.length)) (put 54 (.d (.int .i64 p)) U))))->Fp [0,5,52,53,54] L'=E->
      CC σ0 eC 2 (us.map Con.enc++[[.str cn,.sl (ts.map Ty.enc)]]) v3 σ3->σ3.blk jr=some [.ms jd (dl.length+1) 3 eD,.d (.str nm),.d (.sl (vs.map BX)),.d (.sl (cs.map CE.enc))]->
      AaH σ0 jr dl nm vs cs jd cells p (us++[(⟨cn,ts⟩:Con)]) F' L' (σ3.AL jd (cells++[AV.d (.str nm),.d (.int .i64 (vs.length:Int)),v3])):=fun v3 σ3 F' L' h1 h2 ho3 hr3=>by
      refine ⟨h1,h2,v3,⟨by rw [AJ,if_neg (A6 haps.ne)];exact hr3,haps.nb,haps.ne,BT,haps.ok,EC ho3.le haps.nb⟩,?_⟩;have:=ho3.set haps.nb (cells++[AV.d (.str nm),.d (.int .i64 (vs.length:Int)),v3]);simpa [Con.enc,Ty.Bf] using this
     refine Run.gH mixed (AaH σ0 jr dl nm vs cs jd cells p (us++[(⟨cn,ts⟩:Con)])) ?_ ?_
     . simp only [haps2.res,haps2.row,hixl,hget,hown2.cell,ho.dv,ho.cell,go_sem];refine ⟨?_,?_⟩
       . refine Dh.own hown2 rfl (by simp) (by simp;omega) (by decide) (fun v3 σ3 ho3 hbk3=>?_);have hb3:=(hbk3 jd).trans haps2.row;have hr3:=(hbk3 jr).trans haps2.res;simp only [hb3,hixl,ho3.cells,ho3.cell,hlen3,htk,hdr,go_sem];rw [Aq];refine hend v3 σ3 _ _ ?_ ?_ ho3 hr3
         . simp only [go_sem]
         . simp only [go_sem]
       . refine Dh.own hown2 rfl (by simp) (by simp;omega) (by decide) (fun v3 σ3 ho3 hbk3=>?_);have hb3:=(hbk3 jd).trans haps2.row;have hr3:=(hbk3 jr).trans haps2.res;simp only [hb3,hr3,hixl,ho3.cells,ho3.cell,hlen3,htk,hdr,go_sem];rw [Aq];refine hend v3 σ3 _ _ ?_ ?_ ho3 hr3
         . simp only [go_sem]
         . simp only [go_sem]
     . rintro F' L' σ' ⟨h1,h2,cv',h3,h4⟩;rw [h1,h2];(repeat' (refine wQ ?_<;>try simp only [hw1,go_sem]));exact ih (p+1,us++[(⟨cn,ts⟩:Con)],cv',σ') ⟨by simp only;omega,by simp [hlu],hsn,h3,h4⟩ (by simp only;omega)
 . rw [AP (by omega)] at hok;(repeat' (refine wR ?_<;>try simp only [B7 hlt,go_sem]));exact hfin us cv _ hok hown.slv haps
def AaI (σ0:AH) (jr:Nat) (dl:List Dat) (nm:Str) (vs:List Str) (cs:List CE) (x1 x2 x3:AV) (F':Fm) (L':Lm) (σ':AH):Prop:=
 ∃jd cells,Gw [0,3] F'=put 0 (.gp jr 0) (put 3 (.lp 3 0) U)/\Fp [0,3] L'=At 3 [.d (.str nm),.d (.sl (vs.map BX)),.d (.sl (cs.map CE.enc))] E/\APS σ0 jr dl nm vs.length .Ad x1 x2 x3 jd cells σ'
def APS.st {nm:Str} {k:Int} {cv x1 x2 x3:AV} {jd:Nat} (h:APS σ0 jr dl nm k cv x1 x2 x3 jd cs τ) (hjr:σ0.blk jr=none) (y1 y2 y3:AV):
 APS σ0 jr dl nm k cv y1 y2 y3 jd cs (τ.AL jr [.ms jd (dl.length+1) 3 eD,y1,y2,y3]):=
 ⟨BT,h.nb,h.ne,by rw [AJ,if_neg h.ne];exact h.row,h.ok,EC h.le hjr⟩
def AGX (σ0:AH) (jr:Nat) (dl:List Dat) (hdl:dl.length<=1000) (hnn:∀d∈dl,0<=d.vars) (hdt:uS dl) (nm:Str) (vs:List Str) (cs:List CE) (hcs:cs.length<=1000) (hsm:∀c∈cs,ZQ c/\c.args.length<=1000)
 (τ:AH) (dv x1 x2 x3:AV) (hb:τ.blk jr=some [dv,x1,x2,x3]) (Z:x1.B1=true/\x2.B1=true/\x3.B1=true) (hv:DlX σ0 jr τ dl dv) (hle:σ0.le τ) (hjr:σ0.blk jr=none):
 AR Tzp 89 [.gp jr 0,deA ⟨nm,vs,cs⟩] τ (DQ σ0 jr dl (OL (Fl dl) (JY dl) ⟨nm,vs,cs⟩)):=by
 refine SW (by simp [deA]) ?_;rw [BD];simp only [DE.enc,deA,AF,AN];have hfi:=AJ6 dl dv [x1,x2,x3] jr nm τ (by omega) hb hv.dls;have hrep:=R8 vs τ;have hap:=fun K=>AC7 σ0 jr dl hdl nm vs cs τ dv x1 x2 x3 hb Z hv hle hjr K;have hds:(Fl dl).map (·.1)=Ly dl:=qQ dl;unfold OL;simp only [hds];have hin:(DP (Ly dl) nm).isSome=(Ly dl).contains nm:=NI _ _;cases hc:DP (Ly dl) nm with
 |some i=>
  rw [hc] at hin hfi;simp only [H6] at hin;have hge:decide ((0:Int)<=(i:Int))=true:=by simp
  rw [<- hin];simp only [N7,if_true];simp only [HQ] at hfi;(repeat' ((first|refine wR ?_|refine AI.det (hfi) ?_|fail)<;>try simp only [go_sem]));exact ⟨rfl,by decide,hle⟩
 |none=>
 rw [hc] at hin hfi;simp only [H5] at hin;rw [<- hin];simp only [HQ] at hfi;have hge:decide ((0:Int)<=-1)=false:=by decide
 cases ht:DC vs with
 |true=>
  rw [ht] at hrep;simp only [Ep,if_true];(repeat' ((first|refine wR ?_|refine AI.det (hfi) ?_|refine AI.det (hrep) ?_|fail)<;>try simp only [hge,go_sem]));exact ⟨rfl,by decide,hle⟩
 |false=>
 rw [ht] at hrep;simp only [Ep,A1,if_false];(repeat' (first|refine ctQ rfl ?_|((first|refine rgQ mxQ ?_|refine cdQ ?_|refine AI.det (hfi) ?_|refine AI.det (hrep) ?_)<;>try simp only [hge,go_sem])|fail));refine Run.gH mixed (AaI σ0 jr dl nm vs cs x1 x2 x3) (hap _ (fun F' L' σ' jd cells h1 h2 h3=>⟨jd,cells,h1,h2,h3⟩)) ?_;rintro F' L' σ' ⟨jd,cells,h1,h2,h3⟩;rw [h1,h2];have hres:=h3.res;have h4:=h3.st hjr (.d (.str nm)) (.d (.sl (vs.map BX))) (.d (.sl (cs.map CE.enc)));have hres4:=h4.res
 have hw:IntKind.i64.wrap (((dl.length+1:Nat):Int) - 1)=(dl.length:Int):=by
  exact M1 (by omega)
 (repeat' (refine wQ ?_<;>try simp only [hres,hres4,hw,AA,go_sem]));exact AGW σ0 jr dl hdl hnn hdt nm vs cs hcs hsm _ jd cells hjr h4
def Kd.enc:∀ {dl:List Dat} {cs:List AV},Kd cs dl->∃ds,dvs cs=some ds/\chunk 3 dl.length ds=dl.map Dat.enc
 |[],cs,h=>by
  have:cs=[]:=An (by simpa using h.1);subst this;exact ⟨[],rfl,rfl⟩
 |d::dl,cs,h=>by
  obtain ⟨cv,h1,h2⟩:=h.2 0 d rfl;simp only [Nb,TG] at h1
  have hcs:cs= .d (.str d.name)::.d (.int .i64 d.vars)::cv::cs.drop 3:=by
   conv=>lhs;rw [<- A7 3 cs,h1]
   rfl
  have ht:Kd (cs.drop 3) dl:=by
   refine ⟨by rw [Df,h.1];simp;omega,fun i x Z=>?_⟩;obtain ⟨cv',h3,h4⟩:=h.2 (i+1) x Z;refine ⟨cv',?_,h4⟩;rw [Es,<- h3];congr 2;omega
  obtain ⟨ds,h5,h6⟩:=Kd.enc ht;refine ⟨.str d.name::.int .i64 d.vars::.sl (d.cons.map Con.enc)::ds,?_,?_⟩
  . rw [hcs];have hcv:=h2.dv;have e1:(AV.d (.str d.name)).dv=some (.str d.name):=rfl;have e2:(AV.d (.int .i64 d.vars)).dv=some (.int .i64 d.vars):=rfl;simp [dvs,hcv,h5,e1,e2]
  . simp [chunk,h6,Dat.enc]
def dgA (d:Dg):AV:= .agg [.d (.int .i64 d.1),.d (.int .i64 d.2.1),.d (.int .i64 d.2.2)]
def eU:Except Dg (List Dat)->AV
 | .ok dt=>.tup [dsA dt,dgA (0,0,0)]
 | .error d=>.tup [dsA [],dgA d]
def AC6 {used:List Str} {d:DE} {x:Dat} (h:OL ds used d= .ok x):x.name=d.name/\x.vars=d.vars.length/\x.cons.map (·.name)=d.cons.map (·.name):=by
 unfold OL at h;split at h
 . cases h
 . cases hc:FX (ds++[(d.name,d.vars.length)]) d.vars used d.cons with
   |error e=>rw [hc] at h;cases h
   |ok us=>
    rw [hc] at h;cases h;exact ⟨rfl,rfl,(PK _ _ [] hc).2⟩
def T2 (m:List DE):∀ {l done:List DE} {xs:List Dat},DZ done l= .ok xs->DZ done (l++m)=(DZ (done++l) m).map (xs++·)
 |[],done,xs,h=>by
  cases h;simp only [Ag,Bu];cases DZ done m<;>rfl
 |d::l,done,xs,h=>by
  rw [DZ] at h;rw [AX,DZ];cases hd:OL (C1 done) (KT done) d with
  |error e=>rw [hd] at h;cases h
  |ok x=>
   rw [hd] at h;simp only at h ⊢;cases hl:DZ (done++[d]) l with
   |error e=>rw [hl] at h;cases h
   |ok ys=>
    rw [hl] at h;cases h;rw [T2 m hl,Aq];simp only [AX,Ag];cases DZ (done++d::l) m<;>rfl
def Mt:∀ {l done:List DE} {xs:List Dat},DZ done l= .ok xs->Fl xs=C1 l/\JY xs=KT l/\xs.length=l.length/\(∀x∈xs,0<=x.vars)/\(∀n,(∀d∈l,d.cons.length<=n)->∀x∈xs,x.cons.length<=n)
 |[],done,xs,h=>by cases h;simp [Fl,C1,JY,KT]
 |d::l,done,xs,h=>by
  rw [DZ] at h;cases hd:OL (C1 done) (KT done) d with
  |error e=>rw [hd] at h;cases h
  |ok x=>
   rw [hd] at h;simp only at h;cases hl:DZ (done++[d]) l with
   |error e=>rw [hl] at h;cases h
   |ok ys=>
    rw [hl] at h;cases h;obtain ⟨f1,f2,f3⟩:=AC6 hd;obtain ⟨g1,g2,g3,g4,g5⟩:=Mt hl;have f4:x.cons.length=d.cons.length:=by simpa using congrArg List.length f3
    refine ⟨?_,?_,by simp [g3],?_,?_⟩
    . simp [Fl,C1,f1,f2] at g1 ⊢;exact g1
    . simp only [JY,KT,DJ,f3] at g2 ⊢;rw [g2]
    . intro y hy;rcases Az.1 hy with rfl|hy
      . rw [f2];omega
      . exact g4 y hy
    . intro n hn y hy;rcases Az.1 hy with rfl|hy
      . rw [f4];exact hn d (AW ..)
      . exact g5 n (fun z hz=>hn z (AU _ hz)) y hy
def lH (hv:Eb p=true) (h:∀d∈p.data,J5 d):p.data.length<=12/\∀d∈p.data,d.cons.length<=1000/\∀c∈d.cons,ZQ c/\c.args.length<=1000:=by
 simp only [Eb,AO,decide_eq_true_eq,Aj] at hv;obtain ⟨⟨⟨h1,_⟩,h2⟩,_⟩:=hv;refine ⟨h1,fun d hd=>?_⟩;have:=h2 d hd;simp only [OK,AO,decide_eq_true_eq,Aj] at this;obtain ⟨⟨_,h3⟩,h4⟩:=this;refine ⟨by omega,fun c hc=>⟨h d hd c hc,?_⟩⟩;have:=h4 c hc;simp only [nJ,AO,decide_eq_true_eq] at this;omega
def AH4 (h:Y.le τ):Y.le { τ with blk:=fun j=>if (Y.blk j).isSome then τ.blk j else none}:=
 ⟨fun i cs hi=>by simp only [hi,H6,if_true];exact h.blk i cs hi,h.tok,h.gt,h.bt⟩
def TA (p:Pg) (Y:AH) (h:∀d∈p.data,J5 d):AR Tzp 52 [pgA p] Y (fun v σ'=>v=eU (Fo p)/\σ'=Y):=by
 have hval:=oZ p Y h;refine AAN (by simp) ?_;rw [Bj];unfold Fo;cases hvb:Eb p with
 |false=>
  rw [hvb] at hval;obtain ⟨ds,fs⟩:=p;simp only [pgA,Pg.enc,AF,AN] at hval ⊢;(repeat' ((first|refine wQ ?_|(refine Run.Bg Kn (σ2:=Y) (AH.le_refl _) ?_)|refine AI.det (hval) ?_|fail)<;>try simp only [go_sem]));rfl
 |true=>
 rw [hvb] at hval;obtain ⟨hpl,hps⟩:=lH hvb h;obtain ⟨ds,fs⟩:=p;simp only [pgA,Pg.enc,AF,AN] at hval hpl hps ⊢;(repeat' ((first|refine wQ ?_|refine AI.det (hval) ?_|fail)<;>try simp only [AA,go_sem]));intro jr hj;generalize hQ:(fun (v:AV) (σ':AH)=>v=eU (match DZ [] ds with| .error (e,i)=>.error (e,-1,(i:Int))| .ok l=>.ok l)/\σ'=Y)=Q
 have herr:∀(e:Int) (i:Nat),DZ [] ds= .error (e,i)->Q (.tup [.d (.sl []),.agg [.d (.int .i64 e),.d (.int .i64 (-1)),.d (.int .i64 i)]]) Y:=fun e i hd=>by
  rw [<- hQ,hd];exact ⟨rfl,rfl⟩
 have hok:∀(l:List Dat),DZ [] ds= .ok l->Q (.tup [dsA l,.agg [.d (.int .i64 0),.d (.int .i64 0),.d (.int .i64 0)]]) Y:=fun l hd=>by
  rw [<- hQ,hd];exact ⟨rfl,rfl⟩
 clear hQ;have hle0:=CK (cs:=[AV.Ad,.d (.str []),.Ad,.Ad]) hj;(repeat' (refine wQ ?_<;>try simp only [AA,go_sem]));refine Run.BB ?_
 refine Run.BE ((fun (a3:AV) (a4:AV) (a15:AV) (a16:AV)=>fun (y:Nat×List Dat×AH)=>put 3 a3 (put 4 a4 (put 15 a15 (put 16 a16 (put 17 (.d (.int .i64 y.1)) U))))) _ _ _ _) (fun _=>At 3 [.d (.int .i64 0),.d (.int .i64 0),.d (.int .i64 0)] E) (fun y=>y.2.2)
  (fun y=>y.1<=ds.length/\DZ [] (ds.take y.1)= .ok y.2.1/\∃dv y1 y2 y3,y.2.2.blk jr=some [dv,y1,y2,y3]/\(y1.B1=true/\y2.B1=true/\y3.B1=true)/\DlX Y jr y.2.2 y.2.1 dv/\Y.le y.2.2)
  (fun y=>ds.length - y.1) ?_ (0,[],_) ⟨by simp,rfl,.Ad,.d (.str []),.Ad,.Ad,by simp only [if_true],⟨rfl,rfl,rfl⟩,.inl ⟨rfl,rfl⟩,hle0⟩
 rintro ⟨i,dl,τ⟩ ⟨hi,hgo,dv,y1,y2,y3,hb,Z,hv,hle⟩ ih;simp only at hi hgo hb hv hle;obtain ⟨f1,f2,f3,f4,f5⟩:=Mt hgo;have hlen:dl.length=i:=by rw [f3,B5];omega
 by_cases hlt:i < ds.length
 . obtain ⟨d,hd⟩:=Ai hlt;have he:=BI (enc:=DE.enc) hd;have hw1:=wsu i;have hdt:uS dl:=f5 1000000 (fun d hd=>by have:=(hps d (CZ hd)).1;omega);obtain ⟨hc1,hc2⟩:=hps d (AD hd);obtain ⟨nm,vs,cs⟩:=d;have hc:=AGX Y jr dl (by omega) f4 hdt nm vs cs hc1 hc2 τ dv y1 y2 y3 hb Z hv hle hj
   have hall:DZ [] ds=(DZ (ds.take i) (⟨nm,vs,cs⟩::ds.drop (i+1))).map (dl++·):=by
    conv=>lhs;rw [<- A7 i ds,By hd]
    exact T2 _ hgo
   have hsn:DZ [] (ds.take (i+1))=(DZ (ds.take i) [⟨nm,vs,cs⟩]).map (dl++·):=by
    rw [A5 hd];exact T2 _ hgo
   rw [DZ,<- f1,<- f2] at hall hsn;simp only [DE.enc,deA,AF,AN] at he hc;cases hr:OL (Fl dl) (JY dl) ⟨nm,vs,cs⟩ with
   |error e=>
    rw [hr] at hc hall;simp only [C4,B5,FN hi] at hall;have hc':=AR.mono hc (Q':=fun v σ'=>v= .d (.int .i64 e)/\e≠0/\Y.le σ') (fun v σ' h=>h);(repeat' (first|((first|refine wQ ?_|(refine AI.mk rfl hc' ?_;rintro _ τ' ⟨rfl,hne,hle'⟩)|fail)<;>try simp only [Ap hlt,he,go_sem])|(refine ⟨fun h=>?_,fun h=>?_⟩<;>first|(cases h;done)|try simp only [h])|fail))
    case refine_2=>exact absurd ‹(e != 0)=false› (by simp [hne])
    (repeat' ((first|refine wQ ?_|(refine Run.Bg Kn (σ2:=Y) hle' ?_)|fail)<;>try simp only [go_sem]));exact herr e i hall
   |ok x=>
    rw [hr] at hc hsn;simp only [DZ,C4] at hsn;have hc':=AR.mono hc (Q':=fun v σ'=>v= .d (.int .i64 0)/\Y.le σ'/\∃dv y1 y2 y3,σ'.blk jr=some [dv,y1,y2,y3]/\(y1.B1=true/\y2.B1=true/\y3.B1=true)/\DlX Y jr σ' (dl++[x]) dv) (fun v σ' h=>h);have h00:((0:Int) != 0)=false:=by decide
    (repeat' (first|((first|refine wQ ?_|(refine AI.mk rfl hc' ?_;rintro _ τ' ⟨rfl,hle',dv',z1,z2,z3,hb',hx',hv'⟩)|fail)<;>try simp only [Ap hlt,he,hw1,go_sem])|(refine ⟨fun h=>?_,fun h=>?_⟩<;>first|(cases h;done)|try simp only [h])|fail));(repeat' (refine wQ ?_<;>try simp only [h00,hw1,go_sem]));exact ih (i+1,dl++[x],τ') ⟨by simp only;omega,hsn,dv',z1,z2,z3,hb',hx',hv',hle'⟩ (by simp only;omega)
 . rw [AP (by omega)] at hgo;have hfin:=hok dl hgo;rcases hv with ⟨rfl,rfl⟩|⟨jd,cells,rfl,hn,hne,hbd,hrows⟩
   . (repeat' ((first|refine wQ ?_|(refine Run.Bg Kn (σ2:=Y) hle ?_)|fail)<;>try simp only [B7 hlt,hb,go_sem]));exact hfin
   . obtain ⟨dvl,hdv,hch⟩:=hrows.enc;(repeat' (refine wQ ?_<;>try simp only [B7 hlt,hb,go_sem]));refine Run.freeze (F':=put 2 (dsA dl) (put 3 (.lp 3 0) U)) (σ':= { τ with blk:=fun j=>if (Y.blk j).isSome then τ.blk j else none}) hbd hdv hrows.1 (Af (show dl.length<=12 by omega) (by decide)) (fun s=>?_) (fun k cs' hk=>⟨cs',hk,.inl rfl⟩) (fun j cs' hj'=>?_) (fun _ h=>h) ?_
     . by_cases h2:s=2
       . subst h2;right;simp only [DR,if_true,frz,and_self,dsA,hch]
       . left;simp only [DR,if_neg h2]
     . simp only at hj';cases hs:Y.blk j with
       |none=>rw [hs] at hj';cases hj'
       |some c=>
        rw [hs] at hj';exact ⟨(fun e=>by rw [e,hn] at hs;cases hs),cs',hj',.inl rfl⟩
     . refine Run.Bg Kn (σ2:=Y) (AH4 hle) ?_;simp only [bB,dsA,go_sem];exact hfin
def sD {a:Nat}:∀ {l:List Nat},a∈l->a<=l.sum
 |x::l,h=>by
  rw [Er];rcases Az.1 h with rfl|h
  . omega
  . have:=sD h;omega
def nb1 (e:Ex):Prop:=R4 e.op e.name e.num e.names e.kids.length e.alts=true
def NB (e:Ex):Prop:=nb1 e/\∀k∈e.kids,nb1 k
def jM {α:Type} {f:Nat->α->Option Nat} {sz:α->Nat} {Q:α->Prop}:∀(l:List α) (q r:Nat),(∀x∈l,∀a b,f a x=some b->sz x+b=a/\Q x)->l.foldlM f q=some r->(l.map sz).sum+r=q/\∀x∈l,Q x
 |[],q,r,_,h=>by simp at h;simp [h]
 |x::l,q,r,hf,h=>by
  rw [List.foldlM_cons,AT,AB] at h;obtain ⟨b,hb,h⟩:=h;obtain ⟨h1,h2⟩:=hf x (AW ..) q b hb;obtain ⟨h3,h4⟩:=jM l b r (fun y hy=>hf y (AU _ hy)) h;refine ⟨by simp;omega,fun y hy=>?_⟩;rcases Az.1 hy with rfl|hy
  . exact h2
  . exact h4 y hy
def Ex.IZ:∀l:List Ex,Ex.AQ l=(l.map Ex.size).sum
 |[]=>rfl
 |x::l=>by simp [Ex.AQ,Ex.IZ l]
def Al.IZ:∀l:List Al,Al.AQ l=(l.map Al.size).sum
 |[]=>rfl
 |x::l=>by simp [Al.AQ,Al.IZ l]
def kK {o:Int} {n:Str} {ns sc:List Str} {x:Ex×List Str}:∀ {l:List Ex} {i:Nat},x∈Cr o n ns sc i l->∃k∈l,∃sc',x∈Ca k sc'
 |[],i,h=>by simp [Cr] at h
 |k::l,i,h=>by
  rw [Cr,AZ] at h;rcases h with h|h
  . exact ⟨k,AW ..,_,h⟩
  . obtain ⟨k',h1,h2⟩:=kK h;exact ⟨k',AU _ h1,h2⟩
def kJ {sc:List Str} {x:Ex×List Str}:∀ {l:List Al},x∈Ed sc l->∃a∈l,x∈oH a sc
 |[],h=>by simp [Ed] at h
 |k::l,h=>by
  rw [Ed,AZ] at h;rcases h with h|h
  . exact ⟨k,AW ..,h⟩
  . obtain ⟨k',h1,h2⟩:=kJ h;exact ⟨k',AU _ h1,h2⟩
def uI:∀(d q:Nat) (e:Ex) (r:Nat),vEx d q e=some r->e.size+r=q/\(nb1 e/\∀sc x,x∈Ca e sc->NB x.1)
 |0,q,e,r,h=>by simp [vEx] at h
 |d+1,0,.mk ..,r,h=>by cases h
 |d+1,q+1,.mk o n u ns ks al,r,h=>by
  simp only [vEx] at h;split at h
  . rename_i hn;rw [AB] at h;obtain ⟨c,hc,h⟩:=h;obtain ⟨h1,h2⟩:=jM (sz:=Ex.size) (Q:=fun e=>nb1 e/\∀sc x,x∈Ca e sc->NB x.1) ks q c (fun x _ a b hab=>uI d a x b hab) hc
    obtain ⟨h3,h4⟩:=jM (sz:=Al.size) (Q:=fun a=>∀sc x,x∈oH a sc->NB x.1) al c r (fun x _ a b hab=>by
     cases x with
     |mk cc vs bd=>
      obtain ⟨g1,g2⟩:=uI d a _ b hab;exact ⟨g1,fun sc x Z=>g2.2 _ x (by rw [oH] at Z;exact Z)⟩) h
    have hnb:nb1 (.mk o n u ns ks al):=hn;refine ⟨by rw [Ex.size,Ex.IZ,Al.IZ];omega,hnb,fun sc x Z=>?_⟩;rw [Ca,Az,AZ] at Z;rcases Z with rfl|Z|Z
    . exact ⟨hnb,fun k hk=>(h2 k hk).1⟩
    . obtain ⟨k,hk,sc',Z⟩:=kK Z;exact (h2 k hk).2 sc' x Z
    . obtain ⟨a,ha,Z⟩:=kJ Z;exact h4 a ha _ x Z
  . simp at h
def ARL (h:FQ s=true):s≠[]:=by
 rintro rfl;revert h;decide
def AD7 {e:Ex} (h:nb1 e) (ho:e.op=4):e.name≠[]:=by
 unfold nb1 R4 nmB at h;simp only [ho,AO,if_true] at h;exact ARL h.1.1.1.1
def NB.Gs {e:Ex} (h:NB e) (hs:e.size<=1000000):AJ9 e:=by
 obtain ⟨h1,h2⟩:=h;obtain ⟨o,n,u,ns,ks,al⟩:=e;simp only [Ex.size] at hs;have hkl:=Ex.Bx ks;have hal:=Al.Bx al;refine ⟨AD7 h1,fun ho=>?_,by simp only [Ex.alts];omega,by simp only [Ex.kids];omega⟩;simp only [Ex.op] at ho;subst ho;unfold nb1 R4 nkB at h1;simp only [Ex.op,Ex.kids,AO] at h1;have h3:=h1.2;simp at h3;cases ks with
 |nil=>simp at h3
 |cons k ks=>exact ⟨k,ks,rfl,fun hk=>AD7 (h2 k (AW ..)) hk⟩
def sI:∀(N:Nat) (e:Ex) (sc:List Str) (x:Ex×List Str),e.size<=N->x∈Ca e sc->x.1.size<=e.size
 |0,e,sc,x,h,_=>by have:=Ex.size_pos e;omega
 |N+1,.mk o n u ns ks al,sc,x,h,Z=>by
  rw [Ca,Az,AZ] at Z;rw [Ex.size] at h ⊢
  have hmk:∀k∈ks,k.size<=Ex.AQ ks:=fun k hk=>by
   rw [Ex.IZ];exact sD (aJ hk)
  have hma:∀k∈al,k.size<=Al.AQ al:=fun k hk=>by
   rw [Al.IZ];exact sD (aJ hk)
  rcases Z with rfl|Z|Z
  . rw [Ex.size];omega
  . obtain ⟨k,hk,sc',Z⟩:=kK Z;have:=sI N k sc' x (by have:=hmk k hk;omega) Z;have:=hmk k hk;omega
  . obtain ⟨a,ha,Z⟩:=kJ Z;have h1:=hma a ha;cases a with
    |mk c vs b=>
     rw [oH] at Z;rw [Al.size] at h1;have:=sI N b _ x (by omega) Z;omega
def Uq:∀(l:List FE) (q r:Nat),l.foldlM Vc q=some r->∀f∈l,f.body.size<=q/\f.params.length<=6/\∀sc x,x∈Ca f.body sc->NB x.1
 |[],q,r,_,f,hf=>by simp at hf
 |g::l,q,r,h,f,hf=>by
  rw [List.foldlM_cons,AT,AB] at h;obtain ⟨b,hb,h⟩:=h;unfold Vc at hb;split at hb
  . rename_i hh;obtain ⟨h1,h2,h3⟩:=uI _ _ _ _ hb;rcases Az.1 hf with rfl|hf
    . simp only [AQZ,AO,decide_eq_true_eq] at hh;exact ⟨by omega,hh.1.2,h3⟩
    . have:=Uq l b r h f hf;exact ⟨by omega,this.2⟩
  . cases hb
def dR (h:Eb p=true):p.Dz.length<=24/\∀f∈p.Dz,f.body.size<=600/\f.params.length<=6/\∀sc x,x∈Ca f.body sc->AJ9 x.1:=by
 simp only [Eb,AO,decide_eq_true_eq] at h;obtain ⟨⟨⟨_,h1⟩,_⟩,h2⟩:=h;obtain ⟨r,hr⟩:=mS.1 h2;refine ⟨h1,fun f hf=>?_⟩;obtain ⟨g1,g2,g3⟩:=Uq _ _ _ hr f hf;exact ⟨g1,g2,fun sc x Z=>(g3 sc x Z).Gs (by have:=sI _ _ _ _ (AS _) Z;omega)⟩
def tN (vis:Ex->List Str->Int):∀l:List (Ex×List Str),Ip (fun (_:Unit) x=>(vis x.1 x.2,())) l ()=(iZ vis l,())
 |[]=>rfl
 |x::l=>by
  rw [Ip,iZ,tN vis l];split<;>rfl
def Mu (hv:Fo p= .ok dt):Eb p=true/\DZ [] p.data= .ok dt:=by
 unfold Fo at hv;split at hv
 . rename_i h;split at hv
   . cases hv
   . rename_i l hl;cases hv;exact ⟨h,hl⟩
 . cases hv
def ACZ {ds:List (Str×Nat)} {vars:List Str}:∀ {l:List CE} {used:List Str} {e:Int},FX ds vars used l= .error e->e≠0
 |[],used,e,h=>by cases h
 |c::l,used,e,h=>by
  rw [FX] at h;split at h
  . cases h;decide
  . cases ha:EB ds vars c.args with
    |error e'=>rw [ha] at h;cases h;exact ACG ha
    |ok ts=>
     rw [ha] at h;cases hl:FX ds vars (used++[c.name]) l with
     |error e'=>rw [hl] at h;cases h;exact ACZ hl
     |ok us=>rw [hl] at h;cases h
def AP5 {used:List Str} {d:DE} {e:Int} (h:OL ds used d= .error e):e≠0:=by
 unfold OL at h;split at h
 . cases h;decide
 . cases hl:FX (ds++[(d.name,d.vars.length)]) d.vars used d.cons with
   |error e'=>rw [hl] at h;cases h;exact ACZ hl
   |ok us=>rw [hl] at h;cases h
def AC4:∀ {l done:List DE} {e:Int} {i:Nat},DZ done l= .error (e,i)->e≠0
 |[],done,e,i,h=>by cases h
 |d::l,done,e,i,h=>by
  rw [DZ] at h;cases hd:OL (C1 done) (KT done) d with
  |error e'=>rw [hd] at h;cases h;exact AP5 hd
  |ok x=>
   rw [hd] at h;cases hl:DZ (done++[d]) l with
   |error e'=>rw [hl] at h;cases h;exact AC4 hl
   |ok us=>rw [hl] at h;cases h
def eV {c a b:Int} (h:Fo p= .error (c,a,b)):c≠0:=by
 unfold Fo at h;split at h
 . cases hl:DZ [] p.data with
   |error x=>obtain ⟨e,i⟩:=x;rw [hl] at h;cases h;exact AC4 hl
   |ok us=>rw [hl] at h;cases h
 . cases h;decide
def ALW (ds:List DE) (fs:List FE) (dt:List Dat) (hdt:uS dt) (f:FE) (hsz:f.body.size<=600) (hg:∀sc x,x∈Ca f.body sc->AJ9 x.1) (Y:AH):
 AR Tzp 149 [feA f,.fn 150 [.agg [.d (.sl (ds.map DE.enc)),.d (.sl (fs.map FE.enc)),.d (.sl (dt.map Dat.enc))]] []] Y
  (fun v σ'=>v=(match iZ (QF fs dt) (Ca f.body f.params) with
    |none=>.tup [.d (.int .i64 ((f.body.size - 1:Nat):Int)),.d (.int .i64 0)]
    |some (k,c)=>.tup [.d (.int .i64 (k:Nat)),.d (.int .i64 c)])/\σ'=Y):=by
 refine (uK (S:=Unit) (fun _ x=>(QF fs dt x.1 x.2,())) (fun _=>Y) 150 [.agg [.d (.sl (ds.map DE.enc)),.d (.sl (fs.map FE.enc)),.d (.sl (dt.map Dat.enc))]] [] (by kernel_rfl) rfl rfl f () (by omega) (fun _ _ h=>h) (fun j hj x Z s n=>?_)).mono (fun v σ' h=>?_)
 . have:=ATH ds fs dt hdt x.1 x.2 (hg _ _ Z) (WH (fun _=>Y) j (.fn 150 [.agg [.d (.sl (ds.map DE.enc)),.d (.sl (fs.map FE.enc)),.d (.sl (dt.map Dat.enc))]] []) n s);exact this
 . rw [tN] at h;split at h
   . rename_i hh;simp only [BZ] at hh;rw [hh.1];exact h
   . rename_i hh;simp only [BZ] at hh;rw [hh.1];exact h
def AJ2 {vis:Ex->List Str->Int} {l:List (Ex×List Str)} {c:Int} (h:iZ vis l=some (q,c)):c≠0:=
 pH l () () (q,c) (by rw [tN,h])
def iU (fs:List FE) (dt:List Dat) (m:List FE):∀(l:List FE) (i:Nat),(∀k f,l[k]?=some f->z8 fs dt (i+k) f=none)->RO fs dt i (l++m)=RO fs dt (i+l.length) m
 |[],i,_=>rfl
 |f::l,i,h=>by
  have h0:=h 0 f rfl;rw [CF] at h0;rw [AX,RO,h0];simp only;rw [iU fs dt m l (i+1) (fun k g hg=>by have:=h (k+1) g (by simpa using hg);rwa [show i+(k+1)=i+1+k by omega] at this)];congr 1;simp;omega
def AKD {s:Str}:∀ {l:List Str} {i:Nat},l[i]?=some s->∃k,DP l s=some k/\k<=i
 |[],i,h=>by simp at h
 |x::l,i,h=>by
  rw [DP];split
  . exact ⟨0,rfl,by omega⟩
  . rename_i hne;cases i with
    |zero=>simp at h;simp [h] at hne
    |succ i=>
     obtain ⟨k,h1,h2⟩:=AKD (l:=l) (i:=i) (by simpa using h);exact ⟨k+1,by rw [h1];rfl,by omega⟩
def Yj (p:Pg) (Y:AH) (h:∀d∈p.data,J5 d):AR Tzp 96 [pgA p] Y (fun v σ'=>v=dgA (Q0 p)/\σ'=Y):=by
 have hdat:=TA p Y h;refine vR (by simp) ?_;rw [Bj];unfold Q0;cases hdp:Fo p with
 |error d=>
  rw [hdp] at hdat;obtain ⟨c,a,b⟩:=d;obtain ⟨ds,fs⟩:=p;simp only [pgA,Pg.enc,AF,AN,eU,dgA,dsA] at hdat ⊢;have hne:(c != 0)=true:=by simpa using eV hdp
  (repeat' ((first|refine wR ?_|refine AI.det (hdat) ?_|fail)<;>try simp only [hne,go_sem]))
 |ok dt=>
 rw [hdp] at hdat;obtain ⟨hval,hgo⟩:=Mu hdp;obtain ⟨hfl,hgood⟩:=dR hval;obtain ⟨ds,fs⟩:=p;have hfun:=fun s=>Xl ⟨ds,fs⟩ s Y;simp only [pgA,Pg.enc,AF,AN,eU,dgA,dsA] at hdat hfun hfl hgood ⊢;have h00:((0:Int) != 0)=false:=by decide
 (repeat' ((first|refine wQ ?_|refine AI.det (hdat) ?_|fail)<;>try simp only [h00,AA,go_sem]));have hdt:uS dt:=(Mt hgo).2.2.2.2 1000000 (fun d hd=>by have:=((lH hval h).2 d hd).1;omega);have hrep:=fun l=>R8 l Y;have hbody:=fun f hf=>ALW ds fs dt hdt f (hgood f hf).1 (hgood f hf).2.2 Y;refine Run.BB ?_
 refine Run.BE ((fun (a1:AV) (a2:AV) (a5:AV) (a23:AV) (a24:AV)=>fun (i:Nat)=>put 1 a1 (put 2 a2 (put 5 a5 (put 23 a23 (put 24 a24 (put 25 (.d (.int .i64 i)) U)))))) _ _ _ _ _) (fun _=>At 1 [.d (.sl (ds.map DE.enc)),.d (.sl (fs.map FE.enc))] (At 2 [.d (.int .i64 0),.d (.int .i64 0),.d (.int .i64 0)] (At 5 [.d (.sl (ds.map DE.enc)),.d (.sl (fs.map FE.enc)),.d (.sl (dt.map Dat.enc))] E))) (fun _=>Y)
  (fun i=>i<=fs.length/\∀k f,fs[k]?=some f->k < i->z8 fs dt k f=none) (fun i=>fs.length - i) ?_ 0 ⟨by simp,fun k f _ hk=>by omega⟩
 rintro i ⟨hi,hno⟩ ih;by_cases hlt:i < fs.length
 . obtain ⟨f,hf⟩:=Ai hlt;have he:=BI (enc:=FE.enc) hf;have hw1:=wsu i
   have hgo2:RO fs dt 0 fs=RO fs dt i (f::fs.drop (i+1)):=by
    conv=>lhs;rw [show RO fs dt 0 fs=RO fs dt 0 (fs.take i++fs.drop i) by rw [A7],By hf]
    rw [iU fs dt _ _ 0 (fun k g hg=>?_),BF,B5,FN hi];rw [BF];rw [B2] at hg;split at hg
    . exact hno k g hg (by assumption)
    . cases hg
   rw [RO] at hgo2;have hfn:=hfun f.name;have hrp:=hrep f.params;have hbd:=hbody f (AD hf);obtain ⟨k,hk,hki⟩:=AKD (l:=DY fs) (s:=f.name) (i:=i) (by rw [DY,Am,hf];rfl);rw [hk] at hfn;simp only [HQ] at hfn
   have hF:z8 fs dt i f=if k < i\/DC f.params=true then some (4,(i:Int),0) else match iZ (QF fs dt) (Ca f.body f.params) with
    |some (k,c)=>some (c,(i:Int),(k:Int))
    |none=>none:=by
    unfold z8;rw [hk]
    have:(some k≠some i\/DC f.params=true)↔(k < i\/DC f.params=true):=by
     simp only [ne_eq,AM];constructor
     . rintro (h|h)
       . exact .inl (by omega)
       . exact .inr h
     . rintro (h|h)
       . exact .inl (by omega)
       . exact .inr h
    simp only [this];split
    . rfl
    . cases iZ (QF fs dt) (Ca f.body f.params)<;>rfl
   rw [hF] at hgo2
   have hnx:z8 fs dt i f=none->∀k g,fs[k]?=some g->k < i+1->z8 fs dt k g=none:=fun h0 k g hg hk=>by
    rcases C8 k i with h|h
    . exact hno k g hg h
    . have:k=i:=by omega
      subst this;rw [hf] at hg;cases hg;exact h0
   rw [hF] at hnx;clear hF;obtain ⟨nm,ps,o,n,u,ns,ks,al⟩:=f;simp only [FE.enc,Ex.A4,feA,AF,AN] at he hfn hrp hbd hgo2 hnx;by_cases hki2:k < i
   . have hd:decide ((k:Int) < (i:Int))=true:=by simpa using hki2
     rw [if_pos (.inl hki2)] at hgo2;simp only at hgo2;rw [hgo2];(repeat' ((first|refine wR ?_|refine AI.det (hfn) ?_|fail)<;>try simp only [Ap hlt,he,hd,go_sem]))
   have hd:decide ((k:Int) < (i:Int))=false:=by simpa using hki2
   cases htw:DC ps with
   |true=>
    rw [htw] at hgo2 hrp;rw [if_pos (.inr rfl)] at hgo2;simp only at hgo2;rw [hgo2];(repeat' ((first|refine wR ?_|refine AI.det (hfn) ?_|refine AI.det (hrp) ?_|fail)<;>try simp only [Ap hlt,he,hd,go_sem]))
   |false=>
   rw [htw] at hgo2 hrp hnx;rw [if_neg (by simp;omega)] at hgo2 hnx;cases her:iZ (QF fs dt) (Ca (.mk o n u ns ks al) ps) with
   |some y=>
    obtain ⟨q,c⟩:=y;rw [her] at hgo2 hbd;simp only at hgo2 hbd;rw [hgo2];have hcn:(c != 0)=true:=by simpa using AJ2 her
    (repeat' ((first|refine wR ?_|refine AI.det (hfn) ?_|refine AI.det (hrp) ?_|refine AI.det (hbd) ?_|fail)<;>try simp only [Ap hlt,he,hd,hcn,go_sem]))
   |none=>
    rw [her] at hbd hnx;simp only at hbd hnx;(repeat' ((first|refine wQ ?_|refine AI.det (hfn) ?_|refine AI.det (hrp) ?_|refine AI.det (hbd) ?_|fail)<;>try simp only [Ap hlt,he,hd,h00,hw1,go_sem]));exact ih (i+1) ⟨by omega,hnx trivial⟩ (by omega)
 . have hall:RO fs dt 0 fs=(0,0,0):=by
    have:=iU fs dt [] fs 0 (fun k g hg=>by rw [BF];exact hno k g hg (by have:=(AE.1 hg).1;omega));rw [Bu] at this;rw [this];rfl
   rw [hall];(repeat' (refine wR ?_<;>try simp only [B7 hlt,go_sem]))
def l5 (fs:List FE) (x:Ex×List Str) (fl:List Bool):List Bool:=
 if x.1.op=4&& !x.2.contains x.1.name then (match DP (DY fs) x.1.name with|some g=>fl.set g true|none=>fl) else fl
def x8 (fs:List FE) (x:Ex×List Str) (fl:List Bool):(l5 fs x fl).length=fl.length:=by
 unfold l5;split
 . split<;>simp
 . rfl
def AFS (ds:List DE) (fs:List FE) (e:Ex) (sc:List Str) (fl:List Bool) (hfl:fl.length=fs.length) (hfs:fs.length<=24) (jm jf jp eM:Nat) (Y:AH) (hm:Y.blk jm=some (BP fl)) (hf:Y.blk jf=some [.ms jm fl.length 1 eM])
 (hp:Y.blk jp=some [.d (.sl (ds.map DE.enc)),.d (.sl (fs.map FE.enc))]) (hn:e.op=4->e.name≠[]) (hidx:e.op=4->sc.contains e.name=false->(DP (DY fs) e.name).isSome=true):
 AR Tzp 217 [exA e,.d (bdL sc),.gp jf 0,.gp jp 0] Y (fun v σ'=>v= .d (.int .i64 0)/\σ'=Y.AL jm (BP (l5 fs (e,sc) fl))):=by
 obtain ⟨o,n,u,ns,ks,al⟩:=e;simp only [Ex.op,Ex.name] at hn hidx;refine nP (by simp) ?_;rw [iH,exA,Ex.A4];have hfun:=Xl ⟨ds,fs⟩ n Y;simp only [pgA,Pg.enc,AF,AN] at hfun;have hid:=FU hm;have hT:l5 fs (.mk o n u ns ks al,sc) fl=if decide (o=4)&& !sc.contains n then (match DP (DY fs) n with|some g=>fl.set g true|none=>fl) else fl:=rfl
 by_cases h4:o=4
 . subst h4;have hh:=AAJ sc n (hn rfl) Y;cases hc:sc.contains n with
   |true=>
    rw [hc] at hh hT;simp only [XC,Cy,A1,if_false] at hT;rw [hT,hid];(repeat' ((first|refine wP ?_|refine AI.det (hh) ?_|fail)<;>try simp only [go_sem]))
   |false=>
    rw [hc] at hh;obtain ⟨g,hg⟩:=mS.1 (hidx rfl hc);obtain ⟨f,hff,_⟩:=x9 hg;have hgl:g < fl.length:=by rw [hfl];exact (AE.1 hff).1
    rw [hc,hg] at hT;rw [hg] at hfun;simp only [HQ,Iv,BU,decide_true,if_true] at hfun hT;rw [hT];(repeat' (first|refine ctQ rfl ?_|((first|refine rgQ mxQ ?_|refine cdQ ?_|refine AI.det (hh) ?_|refine AI.det (hfun) ?_)<;>try simp only [go_sem])|fail));have hixl:((g:Int) < (fl.length:Int))=True:=by simp only [eq_iff_iff,iff_true];omega
    have hbl:(g+1<=(BP fl).length)=True:=by rw [PJ];simp only [eq_iff_iff,iff_true];omega
    have hwr:G7 g (BP fl)++[AV.d (.bool true)]++Fk (g+1) (BP fl)=BP (fl.set g true):=by
     rw [<- eF true hgl];rfl
    refine Run.gH mixed (fun F' L' σ'=>σ'=Y.AL jm (BP (fl.set g true))) ?_ ?_
    . simp only [hf,hp,go_sem];refine ⟨?_,?_⟩
      . skip;refine AI.mk rfl hfun ?_;rintro _ _ ⟨rfl,rfl⟩;simp only [hm,hixl,hbl,A9,hwr,go_sem]
      . skip;refine AI.mk rfl hfun ?_;rintro _ _ ⟨rfl,rfl⟩;simp only [hf,hm,hixl,hbl,A9,hwr,go_sem]
    . rintro F' L' σ' rfl;(repeat' (refine wP ?_<;>try simp only [go_sem]))
 . have hb:=Cf h4;simp only [h4,decide_false,Mk,A1,if_false] at hT;rw [hT,hid];(repeat' (refine wP ?_<;>try simp only [hb,go_sem]))
def AE3 (Y:AH) {j:Nat} (h:i≠j) (a b c:List AV):((Y.AL i a).AL j b).AL i c=(Y.AL i c).AL j b:=by
 unfold AH.AL;simp only [AH.mk.injEq,and_true];funext k;by_cases h1:k=i
 . subst h1;simp [h]
 . simp [h1]
def cB (fs:List FE):List (Ex×List Str)->List Bool->List Bool
 |[],fl=>fl
 |x::l,fl=>cB fs l (l5 fs x fl)
def qU (fs:List FE):∀(l:List (Ex×List Str)) (fl:List Bool),(cB fs l fl).length=fl.length
 |[],fl=>rfl
 |x::l,fl=>by rw [cB,qU fs l,x8]
def AMG (fs:List FE) (x:Ex×List Str) (fl:List Bool) (g:Nat):(l5 fs x fl)[g]?=fl[g]?.map (·||MQ fs g x):=by
 unfold l5 MQ;by_cases h:x.1.op=4
 . cases hc:x.2.contains x.1.name with
   |true=>
    simp [h]
   |false=>
    simp only [h,decide_true,Iv,BU,if_true,beq_self_eq_true,Bk];cases hi:DP (DY fs) x.1.name with
    |none=>simp
    |some k=>
     by_cases hk:k=g
     . subst hk;rw [B3];by_cases hl:k < fl.length
       . simp [hl]
       . simp [hl]
     . rw [B3,if_neg hk];have hkg:(k==g)=false:=by simpa using hk
       simp [hkg]
 . have hb:=Cf h;simp only [h,decide_false,Mk,A1,if_false,hb,L1];simp
def ADC (fs:List FE) (g:Nat):∀(l:List (Ex×List Str)) (fl:List Bool),(cB fs l fl)[g]?=fl[g]?.map (·||l.any (MQ fs g))
 |[],fl=>by simp [cB]
 |x::l,fl=>by
  rw [cB,ADC fs g l,AMG];cases fl[g]? with
  |none=>rfl
  |some b=>simp [Bool.or_assoc]
abbrev FlS (fs:List FE):= { fl:List Bool // fl.length=fs.length}
def ATG (fs:List FE) (s:FlS fs) (x:Ex×List Str):Int×FlS fs:=(0,⟨l5 fs x s.1,by rw [x8];exact s.2⟩)
def yY (fs:List FE):∀(l:List (Ex×List Str)) (s:FlS fs),Ip (ATG fs) l s=(none,⟨cB fs l s.1,by rw [qU];exact s.2⟩)
 |[],s=>rfl
 |x::l,s=>by
  rw [Ip];have:=yY fs l (ATG fs s x).2;rw [if_pos (show (ATG fs s x).1=0 from rfl),this];rfl
def ACQ (ds:List DE) (fs:List FE) (f:FE) (hsz:f.body.size<=600) (hfs:fs.length<=24) (jm jf jp eM:Nat) (τ:AH) (fl:List Bool) (hfl:fl.length=fs.length) (hm:τ.blk jm=some (BP fl)) (hf:τ.blk jf=some [.ms jm fl.length 1 eM])
 (hp:τ.blk jp=some [.d (.sl (ds.map DE.enc)),.d (.sl (fs.map FE.enc))]) (hne1:jf≠jm) (hne2:jp≠jm)
 (Z:∀x∈Ca f.body f.params,(x.1.op=4->x.1.name≠[])/\(x.1.op=4->x.2.contains x.1.name=false->(DP (DY fs) x.1.name).isSome=true)):
 AR Tzp 149 [feA f,.fn 217 [] [.gp jf 0,.gp jp 0]] τ
  (fun v σ'=>v= .tup [.d (.int .i64 ((f.body.size - 1:Nat):Int)),.d (.int .i64 0)]/\σ'=τ.AL jm (BP (cB fs (Ca f.body f.params) fl))):=by
 have hw:=uK (S:=FlS fs) (ATG fs) (fun s=>τ.AL jm (BP s.1)) 217 [] [.gp jf 0,.gp jp 0] (by kernel_rfl) rfl rfl f ⟨fl,hfl⟩ (by omega)
  (fun t j hj=>by
    simp only [AJ] at hj ⊢;split
    . rename_i e;rw [if_pos e] at hj;cases hj
    . rename_i e;rwa [if_neg e] at hj)
  (fun j hj x hxm s n=>by
    have hjm:j≠jm:=fun e=>by rw [e,AJ,if_pos rfl] at hj;cases hj
    have hj0:τ.blk j=none:=by rw [AJ,if_neg hjm] at hj;exact hj
    have hjf:jf≠j:=fun e=>by rw [<- e,hf] at hj0;cases hj0
    have hjp:jp≠j:=fun e=>by rw [<- e,hp] at hj0;cases hj0
    have:=AFS ds fs x.1 x.2 s.1 s.2 hfs jm jf jp eM (WH (fun s:FlS fs=>τ.AL jm (BP s.1)) j (.fn 217 [] [.gp jf 0,.gp jp 0]) n s)
     (by simp only [WH,AJ,if_neg (A6 hjm),if_true]) (by rw [WH,AJ,if_neg hjf,AJ,if_neg hne1,hf,hfl,s.2]) (by rw [WH,AJ,if_neg hjp,AJ,if_neg hne2,hp]) (Z x hxm).1 (Z x hxm).2
    refine this.mono (fun v σ' h=>⟨h.1,?_⟩);rw [h.2];simp only [WH,ATG];exact AE3 τ (A6 hjm) _ _ _)
 simp only [FU hm] at hw;refine hw.mono (fun v σ' h=>?_);rw [yY] at h;exact h
def bZ {fs:List FE} {dt:List Dat}:∀(l:List FE) (i:Nat),(RO fs dt i l).1=0->∀f∈l,iZ (QF fs dt) (Ca f.body f.params)=none
 |[],i,_,f,hf=>by simp at hf
 |g::l,i,h,f,hf=>by
  rw [RO] at h
  have hF:z8 fs dt i g=none/\iZ (QF fs dt) (Ca g.body g.params)=none:=by
   unfold z8 at h ⊢;split at h
   . rename_i d hd;exfalso;split at hd
     . cases hd;simp at h
     . split at hd
       . rename_i k c hk;cases hd;exact AJ2 hk h
       . cases hd
   . rename_i hd;split at hd
     . cases hd
     . split at hd
       . cases hd
       . rename_i hk;exact ⟨by rename_i h1 _;rw [if_neg h1],hk⟩
  rw [hF.1] at h;rcases Az.1 hf with rfl|hf
  . exact hF.2
  . exact bZ l (i+1) h f hf
def jK {vis:Ex->List Str->Int}:∀ {l:List (Ex×List Str)},iZ vis l=none->∀x∈l,vis x.1 x.2=0
 |[],_,x,Z=>by simp at Z
 |y::l,h,x,Z=>by
  rw [iZ] at h;split at h
  . rename_i h0;rcases Az.1 Z with rfl|Z
    . exact h0
    . exact jK (by simpa using h) x Z
  . cases h
def Ul (h:(Q0 p).1=0):p.Dz.length<=24/\∀f∈p.Dz,f.body.size<=600/\∀x∈Ca f.body f.params,(x.1.op=4->x.1.name≠[])/\(x.1.op=4->x.2.contains x.1.name=false->(DP (DY p.Dz) x.1.name).isSome=true):=by
 unfold Q0 at h;cases hd:Fo p with
 |error d=>obtain ⟨c,a,b⟩:=d;rw [hd] at h;exact absurd h (eV hd)
 |ok dt=>
  rw [hd] at h;simp only at h;obtain ⟨hv,_⟩:=Mu hd;obtain ⟨hl,hg⟩:=dR hv;refine ⟨hl,fun f hf=>⟨(hg f hf).1,fun x Z=>⟨((hg f hf).2.2 _ x Z).1,fun h4 hc=>?_⟩⟩⟩;have h0:=jK (bZ _ _ h f hf) x Z;obtain ⟨⟨o,n,u,ns,ks,al⟩,sc⟩:=x;simp only [Ex.op,Ex.name] at h4 hc ⊢;subst h4;rw [Vf,if_pos rfl,hc] at h0;cases hi:DP (DY p.Dz) n with
  |none=>rw [hi] at h0;simp at h0
  |some k=>rfl
def CN (n:Nat):List DV:=[.int .i64 (n:Int)]
def P2 (l:List (List Nat)):AV:= .d (.sl (l.map fun r=>[.sl (r.map CN)]))
def fO (h:Y.le τ) {x:Nat×TypeId} (hb:τ.bt i=none):Y.le (τ.Bl i x):=
 ⟨h.blk,h.tok,h.gt,fun k y hk=>by
   have:=h.bt k y hk;show (if k=i then some x else τ.bt k)=some y;rw [if_neg (fun e=>by rw [e,hb] at this;cases this)];exact this⟩
def ASQ {α:Type} {l:List α} {x:α} (h:l[i]?=some x):l.set i x=l:=by
 apply Et;intro k;rw [B3];split
 . rename_i e;subst e;rw [h,if_pos (AE.1 h).1]
 . rfl
def wr1 {α:Type} {l:List α} (x:α) (h:i < l.length):G7 i l++[x]++Fk (i+1) l=l.set i x:=by
 rw [AO8,if_pos h];simp
def AKQ {r:FE->List (List DV)}:∀ {l:List FE} {cells:List AV},cells.length=l.length->(∀(k:Nat) (f:FE),l[k]?=some f->∃cv,cells[k]?=some cv/\SlV cv (r f))->∃ds,dvs cells=some ds/\chunk 1 l.length ds=l.map fun f=>[DV.sl (r f)]
 |[],[],_,_=>⟨[],rfl,rfl⟩
 |f::l,[],h,_=>by simp at h
 |[],c::cells,h,_=>by simp at h
 |f::l,c::cells,h,hk=>by
  obtain ⟨cv,h1,h2⟩:=hk 0 f rfl;simp only [Aw,AM] at h1;subst h1;obtain ⟨ds,h3,h4⟩:=AKQ (r:=r) (l:=l) (cells:=cells) (by simpa using h) (fun k g hg=>hk (k+1) g hg);have hcv:=h2.dv;exact ⟨.sl (r f)::ds,by simp [dvs,hcv,h3],by simp [chunk,h4]⟩
structure CS (Y:AH) (jp jo:Nat) (ds:List DE) (fs:List FE) (cells:List AV) (τ:AH):Prop where
 prog:τ.blk jp=some [.d (.sl (ds.map DE.enc)),.d (.sl (fs.map FE.enc))]
 out:τ.blk jo=some cells
 ne:jo≠jp
 no:Y.blk jo=none
 np:Y.blk jp=none
 le:Y.le τ
 len:cells.length=fs.length
def CS.new {jp jo:Nat} {ds:List DE} {fs:List FE} {cells:List AV} (h:CS Y jp jo ds fs cells τ) {j:Nat} (hj:τ.blk j=none) (cs:List AV):CS Y jp jo ds fs cells (τ.AL j cs):=by
 have h1:jp≠j:=fun e=>by rw [<- e,h.prog] at hj;cases hj
 have h2:jo≠j:=fun e=>by rw [<- e,h.out] at hj;cases hj
 have h3:Y.blk j=none:=by
  cases hc:Y.blk j with
  |none=>rfl
  |some c=>rw [h.le.blk j c hc] at hj;cases hj
 exact ⟨by rw [AJ,if_neg h1];exact h.prog,by rw [AJ,if_neg h2];exact h.out,h.ne,h.no,h.np,EC h.le h3,h.len⟩
def tQ (p:Pg) (Y:AH) (h:∀d∈p.data,J5 d):AR Tzp 152 [pgA p] Y (fun v σ'=>v=P2 (Ii p)/\σ'=Y):=by
 have hchk:=fun Y=>Yj p Y h;refine vQ (by simp) ?_;rw [Bj];unfold Ii;by_cases hc0:(Q0 p).1=0
 case neg=>
  rw [if_neg hc0];have hne:((Q0 p).1 != 0)=true:=by simpa using hc0
  obtain ⟨ds,fs⟩:=p;simp only [pgA,Pg.enc,AF,AN,dgA] at hchk ⊢;(repeat' (refine wQ ?_<;>try simp only [go_sem]));intro jp hjp;have hle0:=CK (cs:=[AV.d (.sl (ds.map DE.enc)),.d (.sl (fs.map FE.enc))]) hjp;(repeat' ((first|refine wQ ?_|(refine Run.Bg SH (σ2:=Y) hle0 ?_)|refine AI.det (hchk _) ?_|fail)<;>try simp only [hne,go_sem]));rfl
 rw [if_pos hc0];have hne:((Q0 p).1 != 0)=false:=by simpa using hc0
 obtain ⟨ds,fs⟩:=p;simp only [pgA,Pg.enc,AF,AN,dgA] at hchk ⊢;(repeat' (refine wQ ?_<;>try simp only [go_sem]));intro jp hjp;have hle0:=CK (cs:=[AV.d (.sl (ds.map DE.enc)),.d (.sl (fs.map FE.enc))]) hjp;(repeat' (first|refine ctQ rfl ?_|((first|refine rgQ mxQ ?_|refine cdQ ?_|refine AI.det (hchk _) ?_)<;>try simp only [hne,AA,go_sem])|fail));obtain ⟨hbig,hfacts⟩:=Ul hc0;simp only at hbig hfacts;generalize hQ:(fun (v:AV) (σ':AH)=>v=P2 (fs.map (aQ fs))/\σ'=Y)=Q;have hok:Q (P2 (fs.map (aQ fs))) Y:=by rw [<- hQ];exact ⟨rfl,rfl⟩
 clear hQ;refine O1.mk (n:=fs.length) (by omega) (by omega) (fun jo hjo=>?_);have hne0:jo≠jp:=fun e=>by rw [e,AJ,if_pos rfl] at hjo;cases hjo
 have hjo':Y.blk jo=none:=by rw [AJ,if_neg hne0] at hjo;exact hjo
 have hflat:(AG fs.length [AV.Ad]).flatten=AG fs.length AV.Ad:=by
  induction fs.length with
  |zero=>rfl
  |succ n ih=>rw [BV,BW,ih];rfl
 rw [hflat]
 have hcs0:CS Y jp jo ds fs (AG fs.length AV.Ad) ((Y.AL jp [AV.d (.sl (ds.map DE.enc)),.d (.sl (fs.map FE.enc))]).AL jo (AG fs.length AV.Ad)):=
  ⟨by rw [AJ,if_neg (A6 hne0),AJ,if_pos rfl],BT,hne0,hjo',hjp,EC hle0 hjo',by simp⟩
 generalize (Y.AL jp [AV.d (.sl (ds.map DE.enc)),.d (.sl (fs.map FE.enc))]).AL jo (AG fs.length AV.Ad)=τ0 at hcs0;have hp0:=hcs0.prog;(repeat' (first|refine ctQ rfl ?_|((first|refine rgQ mxQ ?_|refine cdQ ?_)<;>try simp only [hp0,AA,go_sem])|fail));refine Run.BB ?_
 refine Run.BE ((fun (a1:AV) (a3:AV) (a18:AV) (a19:AV)=>fun (y:Nat×List AV×AH)=>put 1 a1 (put 3 a3 (put 18 a18 (put 19 a19 (put 20 (.d (.int .i64 y.1)) U))))) _ _ _ _) (fun _=>E) (fun y=>y.2.2)
  (fun y=>y.1<=fs.length/\CS Y jp jo ds fs y.2.1 y.2.2/\(∀k f,k < y.1->fs[k]?=some f->∃cv,y.2.1[k]?=some cv/\SlV cv ((aQ fs f).map CN))/\∀k,y.1<=k->k < fs.length->y.2.1[k]?=some .Ad)
  (fun y=>fs.length - y.1) ?_ (0,AG fs.length AV.Ad,τ0) ⟨by simp,hcs0,fun k f hk=>by simp only at hk;omega,fun k _ hk=>by simp [hk]⟩
 rintro ⟨i,cells,τ⟩ ⟨hi,hcs,hdone,hrest⟩ ih;simp only at hi hcs hdone hrest;by_cases hlt:i < fs.length
 . obtain ⟨f,hf⟩:=Ai hlt;have he:=BI (enc:=FE.enc) hf;have hw1:=wsu i;obtain ⟨hsz,Z⟩:=hfacts f (AD hf);have hp1:=hcs.prog;obtain ⟨nm,ps,o,n,u,ns,ks,al⟩:=f;simp only [FE.enc,Ex.A4] at he;(repeat' ((first|refine wQ ?_|(refine O1.mk (n:=fs.length) (by omega) (by omega) (fun jm hjm=>?_))|fail)<;>try simp only [Ap hlt,he,hp1,AA,go_sem]));rw [Yz];have hcs1:=hcs.new hjm (BP (AG fs.length false));rintro jf ⟨hjf,hjb⟩;have hj0:(τ.AL jm (BP (AG fs.length false))).blk jf=none:=by rw [AJ];exact hjf
   have hbm:(τ.AL jm (BP (AG fs.length false))).blk jm=some (BP (AG fs.length false)):=BT;generalize τ.AL jm (BP (AG fs.length false))=τ1 at hcs1 hbm hj0 hjb ⊢;have hfm:jm≠jf:=fun e=>by rw [<- e,hbm] at hj0;cases hj0
   have hfp:jp≠jf:=fun e=>by rw [<- e,hcs1.prog] at hj0;cases hj0
   have hfo:jo≠jf:=fun e=>by rw [<- e,hcs1.out] at hj0;cases hj0
   have hsb:∀(τ:AH) (i:Nat) (x:Nat×TypeId) (j:Nat),(τ.Bl i x).blk j=τ.blk j:=fun _ _ _ _=>rfl;simp only [hsb,go_sem]
   have hm0:Y.blk jm=none:=by
    cases hc:Y.blk jm with
    |none=>rfl
    |some c=>rw [hcs.le.blk jm c hc] at hjm;cases hjm
   have hf0:Y.blk jf=none:=by
    cases hc:Y.blk jf with
    |none=>rfl
    |some c=>rw [hcs1.le.blk jf c hc] at hj0;cases hj0
   have hmp:jp≠jm:=fun e=>by rw [<- e,hcs.prog] at hjm;cases hjm
   have hmo:jo≠jm:=fun e=>by rw [<- e,hcs.out] at hjm;cases hjm
   have hcs2:CS Y jp jo ds fs cells (((τ1.AL jf [AV.Ad]).Bl jf (1,114)).AL jf [AV.ms jm fs.length 1 4]):=
    ⟨by rw [AJ,if_neg hfp,hsb,AJ,if_neg hfp];exact hcs1.prog,by rw [AJ,if_neg hfo,hsb,AJ,if_neg hfo];exact hcs1.out,hcs1.ne,hcs1.no,hcs1.np,EC (fO (EC hcs1.le hf0) hjb) hf0,hcs1.len⟩
   have hbm2:(((τ1.AL jf [AV.Ad]).Bl jf (1,114)).AL jf [AV.ms jm fs.length 1 4]).blk jm=some (BP (AG fs.length false)):=by rw [AJ,if_neg hfm,hsb,AJ,if_neg hfm];exact hbm
   have hbf2:(((τ1.AL jf [AV.Ad]).Bl jf (1,114)).AL jf [AV.ms jm fs.length 1 4]).blk jf=some [AV.ms jm fs.length 1 4]:=BT;generalize ((τ1.AL jf [AV.Ad]).Bl jf (1,114)).AL jf [AV.ms jm fs.length 1 4]=τ2 at hcs2 hbm2 hbf2;have hcb:=ACQ ds fs ⟨nm,ps,.mk o n u ns ks al⟩ hsz hbig jm jf jp 4 τ2 (AG fs.length false) (by simp) hbm2 (by rw [Vs];exact hbf2) hcs2.prog (A6 hfm) hmp Z
   have hcs3:CS Y jp jo ds fs cells (τ2.AL jm (BP (cB fs (Ca (.mk o n u ns ks al) ps) (AG fs.length false)))):=
    ⟨by rw [AJ,if_neg hmp];exact hcs2.prog,by rw [AJ,if_neg hmo];exact hcs2.out,hcs2.ne,hcs2.no,hcs2.np,EC hcs2.le hm0,hcs2.len⟩
   have hbf3:(τ2.AL jm (BP (cB fs (Ca (.mk o n u ns ks al) ps) (AG fs.length false)))).blk jf=some [AV.ms jm fs.length 1 4]:=by rw [AJ,if_neg (A6 hfm)];exact hbf2
   have hbm3:(τ2.AL jm (BP (cB fs (Ca (.mk o n u ns ks al) ps) (AG fs.length false)))).blk jm=some (BP (cB fs (Ca (.mk o n u ns ks al) ps) (AG fs.length false))):=BT;simp only at hcb
   have hfg:∀g,g < fs.length->(cB fs (Ca (.mk o n u ns ks al) ps) (AG fs.length false))[g]?=some ((Ca (.mk o n u ns ks al) ps).any (MQ fs g)):=fun g hg=>by
    rw [ADC];simp [hg]
   have hfln:(cB fs (Ca (.mk o n u ns ks al) ps) (AG fs.length false)).length=fs.length:=by rw [qU];simp
   generalize cB fs (Ca (.mk o n u ns ks al) ps) (AG fs.length false)=fin at hcb hcs3 hbf3 hbm3 hfg hfln;generalize τ2.AL jm (BP fin)=τ3 at hcb hcs3 hbf3 hbm3;simp only [feA,FE.enc,Ex.A4,AF,AN] at hcb;(repeat' ((first|refine wQ ?_|(refine AI.mk rfl hcb ?_;rintro _ τ3 ⟨rfl,rfl⟩)|fail)<;>try simp only [hbf3,go_sem]));refine Run.BB ?_;have hci:=hrest i (AS _) hlt;have hcl:=hcs.len
   refine Run.BE ((fun (a1:AV) (a3:AV) (a4:AV) (a18:AV) (a19:AV) (a20:AV) (a32:AV) (a33:AV)=>fun (z:Nat×AV×AH)=>put 1 a1 (put 3 a3 (put 4 a4 (put 18 a18 (put 19 a19 (put 20 a20 (put 32 a32 (put 33 a33 (put 34 (.d (.int .i64 z.1)) U))))))))) _ _ _ _ _ _ _ _) (fun _=>E) (fun z=>z.2.2)
    (fun z=>z.1<=fs.length/\CS Y jp jo ds fs (cells.set i z.2.1) z.2.2/\z.2.2.blk jm=some (BP fin)/\CC Y 3 1 (((Av z.1).filter fun g=>(Ca (.mk o n u ns ks al) ps).any (MQ fs g)).map CN) z.2.1 z.2.2)
    (fun z=>fs.length - z.1) ?_ (0,.Ad,τ3) ⟨by simp,by rw [show cells.set i .Ad=cells from ASQ hci];exact hcs3,hbm3,⟨⟨τ3,rfl,hcs3.le⟩,hcs3.le,rfl,rfl,rfl,rfl,fun _=>rfl,rfl,rfl⟩⟩
   rintro ⟨g,cv,τ4⟩ ⟨hg,hcs4,hbm4,hown⟩ ih2;simp only at hg hcs4 hbm4 hown;by_cases hgl:g < fs.length
   . have hbg:=Gl (hfg g hgl);have hwg:=wsu g;have ho4:=hcs4.out;have hgi:(cells.set i cv)[i]?=some cv:=by rw [B3];simp;omega
     have hll:((i:Int) < (fs.length:Int))=True:=by simp only [eq_iff_iff,iff_true];omega
     have hll2:((g:Int) < (fs.length:Int))=True:=by simp only [eq_iff_iff,iff_true];omega
     cases hb:(Ca (.mk o n u ns ks al) ps).any (MQ fs g) with
     |false=>
      rw [hb] at hbg
      have hrg:(Av (g+1)).filter (fun g=>(Ca (.mk o n u ns ks al) ps).any (MQ fs g))=(Av g).filter (fun g=>(Ca (.mk o n u ns ks al) ps).any (MQ fs g)):=by
       rw [List.range_succ,QN];simp [hb]
      (repeat' (refine wQ ?_<;>try simp only [hbm4,hbg,hwg,hll2,A9,go_sem]));exact ih2 (g+1,cv,τ4) ⟨by simp only;omega,hcs4,hbm4,by simp only [hrg];exact hown⟩ (by simp only;omega)
     |true=>
      rw [hb] at hbg
      have hrg:(Av (g+1)).filter (fun g=>(Ca (.mk o n u ns ks al) ps).any (MQ fs g))=(Av g).filter (fun g=>(Ca (.mk o n u ns ks al) ps).any (MQ fs g))++[g]:=by
       rw [List.range_succ,QN];simp [hb]
      have hlenR:(((Av g).filter fun g=>(Ca (.mk o n u ns ks al) ps).any (MQ fs g)).map CN).length<=1000:=by
       have:=L2 (fun g=>(Ca (.mk o n u ns ks al) ps).any (MQ fs g)) (Av g);rw [List.length_range] at this;rw [AA];omega
      have hset:∀v2,G7 i (cells.set i cv)++[v2]++Fk (i+1) (cells.set i cv)=cells.set i v2:=fun v2=>by
       rw [wr1 _ (by rw [Kb];omega),List.set_set]
      have hlen1:(i+1<=(cells.set i cv).length)=True:=by simp;omega
      (repeat' ((first|refine wQ ?_|(refine Dh.own hown rfl (by simp) (by simp only [A0,Bw];omega) (by decide) (fun v2 σ2 ho2 hbk=>?_))|fail)<;>try simp only [hbm4,hbg,hll2,A9,ho4,hll,hgi,hown.cell,go_sem]));have hb2:=(hbk jo).trans ho4;have hbm5:=(hbk jm).trans hbm4;have hp5:=(hbk jp).trans hcs4.prog;simp only [hb2,ho2.cell,ho2.cells,hlen1,hset,go_sem];(repeat' (refine wQ ?_<;>try simp only [hwg,go_sem]));have ho3:=ho2.set hcs4.no (cells.set i v2);exact ih2 (g+1,v2,σ2.AL jo (cells.set i v2)) ⟨by simp only;omega,⟨by rw [AJ,if_neg (A6 hcs4.ne)];exact hp5,BT,hcs4.ne,hcs4.no,hcs4.np,ho3.le,by simp [hcl]⟩,by rw [AJ,if_neg (A6 hmo)];exact hbm5,by simp only [hrg,Ao];exact ho3⟩ (by simp only;omega)
   . have hgn:g=fs.length:=by omega
     subst hgn;(repeat' (refine wQ ?_<;>try simp only [B7 hgl,hw1,go_sem]));refine ih (i+1,cells.set i cv,τ4) ⟨by simp only;omega,hcs4,fun k f hk hfk=>?_,fun k hk hkl=>?_⟩ (by simp only;omega)
     . simp only at hk ⊢;by_cases hki:k=i
       . subst hki;rw [hf] at hfk;cases hfk;exact ⟨cv,by rw [B3];simp;omega,hown.slv⟩
       . rw [B3,if_neg (fun e=>hki e.symm)];exact hdone k f (by omega) hfk
     . simp only at hk ⊢;rw [B3,if_neg (by omega)];exact hrest k (by omega) hkl
 . have hin:i=fs.length:=by omega
   subst hin;obtain ⟨dvl,hdv,hch⟩:=AKQ (r:=fun f=>(aQ fs f).map CN) hcs.len (fun k f hk=>hdone k f (AE.1 hk).1 hk);(repeat' (refine wQ ?_<;>try simp only [B7 hlt,go_sem]));refine Run.freeze (F':=put 2 (P2 (fs.map (aQ fs))) U) (σ':= { τ with blk:=fun j=>if (Y.blk j).isSome then τ.blk j else none}) hcs.out hdv (by rw [hcs.len,A9]) (Af hbig (by decide)) (fun s=>?_) (fun k cs' hk=>⟨cs',hk,.inl rfl⟩) (fun j cs' hj'=>?_) (fun _ h=>h) ?_
   . by_cases h2:s=2
     . subst h2;right;simp only [DR,if_true,frz,and_self,P2,hch,List.map_map];rfl
     . left;simp only [DR,if_neg h2]
   . simp only at hj';cases hs:Y.blk j with
     |none=>rw [hs] at hj';cases hj'
     |some c=>
      rw [hs] at hj';exact ⟨(fun e=>by rw [e,hcs.no] at hs;cases hs),cs',hj',.inl rfl⟩
   . refine Run.Bg SH (σ2:=Y) (AH4 hcs.le) ?_;simp only [Y8,P2,go_sem];exact hok
set_option maxRecDepth 100000
set_option maxHeartbeats 40000000
noncomputable section
def Yo:List (Nat×PT):=[(3,(pO [0] (.alt 1 (pO [2,3] .done) (.alt 2 (pO [1,3] .done) .done)))),(5,(pL [9] (pO [0,1,2,4,5,6] (.alt 3 (pO [7,8,10] .done) (.alt 7 (pO [3,8,10] .done) .done))))),(16,(pO [0,1,2] (.alt 3 (pO [4,5,6] .done) (.alt 5 (pO [3,4,6] .done) .done)))),(27,(pO [0,1,2,3,5,6,7] (.alt 4 (pO [8,9,10,11,12,13,14,15] .done) (.alt 8 (pO [9,10,11,12] (.alt 4 (pO [13,14,15] .done) (.alt 13 (pO [4,14,15] .done) .done))) .done))))]
noncomputable def Bc:Cx:=⟨Tzp,60,Tryz.f60,121,[300018,300021,300024,300026,300031,300035,300039,300046,300049,300105,300108,300119],[],[.c 2 (some 2),.c 3 (some 3)]⟩
instance Kq:Good Bc:=⟨Tryz.func60,by kernel_rfl,mixed⟩
def J3:Bc.rs=[.c 2 (some 2),.c 3 (some 3)]:=rfl
noncomputable def II:=BG Bc Yo fun c a b d e=>G c [a,b,d,e]
def Ft:C:=lpC 0 (II .skip .skip .skip .skip)
def Hj:C:=lpC 1 (II Ft .skip .skip .skip)
def Kk:C:=lpC 2 (II Ft Hj .skip .skip)
def Hk:C:=lpC 3 (II Ft Hj Kk .skip)
def qH:C:=(II Ft Hj Kk Hk).1
def rS:Inn Bc qH 121:=inn Yo Kq Tryz.ntmps60
def Rc:List (Nat×PT):=[(2,(pO [0,1,2,3,5,7,9] (.alt 4 (.alt 6 (.alt 8 (pO [10,11,12,13] .done) (.alt 10 (pO [8,11,12,13] .done) .done)) (.alt 8 (.alt 6 (pO [10,11,12,13] .done) (.alt 10 (pO [6,11,12,13] .done) .done)) (.alt 10 (.alt 6 (pO [8,11,12,13] .done) (.alt 8 (pO [6,11,12,13] .done) .done)) .done))) (.alt 6 (.alt 4 (.alt 8 (pO [10,11,12,13] .done) (.alt 10 (pO [8,11,12,13] .done) .done)) (.alt 8 (.alt 4 (pO [10,11,12,13] .done) (.alt 10 (pO [4,11,12,13] .done) .done)) (.alt 10 (.alt 4 (pO [8,11,12,13] .done) (.alt 8 (pO [4,11,12,13] .done) .done)) .done))) (.alt 8 (.alt 4 (.alt 6 (pO [10,11,12,13] .done) (.alt 10 (pO [6,11,12,13] .done) .done)) (.alt 6 (.alt 4 (pO [10,11,12,13] .done) (.alt 10 (pO [4,11,12,13] .done) .done)) (.alt 10 (.alt 4 (pO [6,11,12,13] .done) (.alt 6 (pO [4,11,12,13] .done) .done)) .done))) (.alt 10 (.alt 4 (.alt 6 (pO [8,11,12,13] .done) (.alt 8 (pO [6,11,12,13] .done) .done)) (.alt 6 (.alt 4 (pO [8,11,12,13] .done) (.alt 8 (pO [4,11,12,13] .done) .done)) (.alt 8 (.alt 4 (pO [6,11,12,13] .done) (.alt 6 (pO [4,11,12,13] .done) .done)) .done))) .done)))))),(7,(pO [0,1,2,4,5,6,7,8,9,10,11,12,13,14] (.alt 3 (pO [15,16,17] .done) (.alt 15 (pO [3,16,17] .done) .done)))),(8,(pO [0,1,2,4,5,6,7] (.alt 3 (pO [8,9,10] .done) (.alt 8 (pO [3,9,10] .done) .done))))]
noncomputable def GP:Cx:=⟨Tzp,98,Tryz.f98,70,[28,300014,300016,300050],[],[.t 8]⟩
instance fD:Good GP:=⟨Tryz.func98,by kernel_rfl,mixed⟩
def dN:GP.rs=[.t 8]:=rfl
noncomputable def RY:=BG GP Rc fun c a=>G c [a]
def X7:C:=lpC 0 (RY .skip)
def Kl:C:=(RY X7).1
def fH:Inn GP Kl 70:=inn Rc fD Tryz.ntmps98
def KM:List (Nat×PT):=[(2,(pO [0,1,2,3,4,6,10,11,12,13,14,15,16,17,18,19,20,21,22,23,24,25,26] (.alt 5 (pO [7,8] (.alt 9 (pO [27,28,29] .done) (.alt 27 (pO [9,28,29] .done) .done))) (.alt 27 (pO [5,7,8,9,28,29] .done) .done))))]
noncomputable def Eg:Cx:=⟨Tzp,99,Tryz.f99,51,[],[],[]⟩
instance KC:Good Eg:=⟨Tryz.func99,by kernel_rfl,mixed⟩
def Sv:Eg.rs=[]:=rfl
noncomputable def Tt:=BG Eg KM (G · [])
def TU:C:=(Tt).1
def Th:Inn Eg TU 51:=inn KM KC Tryz.ntmps99
noncomputable def FK:Cx:=⟨Tzp,100,Tryz.f100,26,[1,3,4],[],[.t 2]⟩
instance Ux:Good FK:=⟨Tryz.func100,by kernel_rfl,mixed⟩
def UK:FK.rs=[.t 2]:=rfl
noncomputable def Kv:=BG FK [] fun c a=>G c [a]
def QX:C:=lpC 0 (Kv .skip)
def Ui:C:=(Kv QX).1
def VD:Inn FK Ui 26:=inn [] Ux Tryz.ntmps100
noncomputable def Fh:Cx:=⟨Tzp,101,Tryz.f101,13,[1,3,4],[],[.t 2]⟩
instance Lg:Good Fh:=⟨Tryz.func101,by kernel_rfl,mixed⟩
def V6:Fh.rs=[.t 2]:=rfl
noncomputable def Wl:=BG Fh [] (G · [])
def WX:C:=(Wl).1
def We:Inn Fh WX 13:=inn [] Lg Tryz.ntmps101
noncomputable def FJ:Cx:=⟨Tzp,102,Tryz.f102,38,[5,7],[],[.t 6]⟩
instance Uw:Good FJ:=⟨Tryz.func102,by kernel_rfl,mixed⟩
def UJ:FJ.rs=[.t 6]:=rfl
noncomputable def VK:=BG FJ [] (G · [])
def Uf:C:=(VK).1
def VC:Inn FJ Uf 38:=inn [] Uw Tryz.ntmps102
def Lo:List (Nat×PT):=[(7,(pL [27] (pO [0,2,3,4,5,6,7,9,12,14,15,16,17,18,19,21,24] (.alt 1 (pO [8,10,11] (.alt 13 (pO [20,22,23,25,26,28] .done) (.alt 20 (pO [22] (.alt 13 (pO [23,25,26,28] .done) (.alt 23 (pO [13,25,26,28] .done) .done))) .done))) (.alt 8 (pO [10] (.alt 1 (pO [11] (.alt 13 (pO [20,22,23,25,26,28] .done) (.alt 20 (pO [22] (.alt 13 (pO [23,25,26,28] .done) (.alt 23 (pO [13,25,26,28] .done) .done))) .done))) (.alt 11 (.alt 1 (.alt 13 (pO [20,22,23,25,26,28] .done) (.alt 20 (pO [22] (.alt 13 (pO [23,25,26,28] .done) (.alt 23 (pO [13,25,26,28] .done) .done))) .done)) (.alt 20 (pO [22] (.alt 1 (.alt 13 (pO [23,25,26,28] .done) (.alt 23 (pO [13,25,26,28] .done) .done)) (.alt 23 (pO [1,13,25,26,28] .done) .done))) .done)) (.alt 20 (pO [22] (.alt 1 (pO [11] (.alt 13 (pO [23,25,26,28] .done) (.alt 23 (pO [13,25,26,28] .done) .done))) (.alt 11 (.alt 1 (.alt 13 (pO [23,25,26,28] .done) (.alt 23 (pO [13,25,26,28] .done) .done)) (.alt 23 (pO [1,13,25,26,28] .done) .done)) (.alt 23 (.alt 1 (pO [11,13,25,26,28] .done) (.alt 11 (pO [1,13,25,26,28] .done) .done)) .done)))) .done)))) (.alt 20 (pO [22] (.alt 1 (pO [8,10,11] (.alt 13 (pO [23,25,26,28] .done) (.alt 23 (pO [13,25,26,28] .done) .done))) (.alt 8 (pO [10] (.alt 1 (pO [11] (.alt 13 (pO [23,25,26,28] .done) (.alt 23 (pO [13,25,26,28] .done) .done))) (.alt 11 (.alt 1 (.alt 13 (pO [23,25,26,28] .done) (.alt 23 (pO [13,25,26,28] .done) .done)) (.alt 23 (pO [1,13,25,26,28] .done) .done)) (.alt 23 (.alt 1 (pO [11,13,25,26,28] .done) (.alt 11 (pO [1,13,25,26,28] .done) .done)) .done)))) (.alt 23 (.alt 1 (pO [8,10,11,13,25,26,28] .done) (.alt 8 (pO [10] (.alt 1 (pO [11,13,25,26,28] .done) (.alt 11 (pO [1,13,25,26,28] .done) .done))) .done)) .done)))) .done)))))),(15,(pO [0,1,2,3,4,5,6,8,9,10,11,12,7,13,14,15,16,17] .done))]
noncomputable def EM:Cx:=⟨Tzp,103,Tryz.f103,106,[300068,300070,300078,300084,300091,300104],[],[.c 4 (some 5),.t 5]⟩
instance W5:Good EM:=⟨Tryz.func103,by kernel_rfl,mixed⟩
def V4:EM.rs=[.c 4 (some 5),.t 5]:=rfl
noncomputable def Hf:=BG EM Lo fun c a b=>G c [a,b]
def JA:C:=lpC 0 (Hf .skip .skip)
def JB:C:=lpC 1 (Hf JA .skip)
def WV:C:=(Hf JA JB).1
def Wc:Inn EM WV 106:=inn Lo W5 Tryz.ntmps103
noncomputable def EI:Cx:=⟨Tzp,153,Tryz.f153,21,[],[],[.t 4]⟩
instance Q5:Good EI:=⟨Tryz.func153,by kernel_rfl,mixed⟩
def QA:EI.rs=[.t 4]:=rfl
noncomputable def Ib:=BG EI [] fun c a=>G c [a]
def Nj:C:=lpC 0 (Ib .skip)
def QY:C:=(Ib Nj).1
def Qe:Inn EI QY 21:=inn [] Q5 Tryz.ntmps153
noncomputable def Fg:Cx:=⟨Tzp,154,Tryz.f154,6,[],[],[.t 2]⟩
instance W6:Good Fg:=⟨Tryz.func154,by kernel_rfl,mixed⟩
def V5:Fg.rs=[.t 2]:=rfl
noncomputable def Wk:=BG Fg [] (G · [])
def WW:C:=(Wk).1
def Wd:Inn Fg WW 6:=inn [] W6 Tryz.ntmps154
def OZ:List (Nat×PT):=[(2,(pO [0,1,2,4,5,6,8,9,10,11,12,13,14,15,16,17,18,19] (.alt 3 (.alt 7 (pO [20,21,22] .done) (.alt 20 (pO [7,21,22] .done) .done)) (.alt 7 (.alt 3 (pO [20,21,22] .done) (.alt 20 (pO [3,21,22] .done) .done)) (.alt 20 (pO [3,7,21,22] .done) .done))))),(28,(pO [0,1,2,3,4,5,6,7,8,10,11,12,9,13,14] .done))]
noncomputable def C6:Cx:=⟨Tzp,155,Tryz.f155,170,[42,300045,300054,300065,300074,300081,300087,300094,300101,300125,300131,300141,300047],[],[.t 6]⟩
instance Zg:Good C6:=⟨Tryz.func155,by kernel_rfl,mixed⟩
def Yf:C6.rs=[.t 6]:=rfl
noncomputable def Zs:=BG C6 OZ (G · [])
def BR:C:=(Zs).1
def Zn:Inn C6 BR 170:=inn OZ Zg Tryz.ntmps155
noncomputable def Gj:Cx:=⟨Tzp,156,Tryz.f156,28,[100025],[],[.t 6]⟩
instance Zh:Good Gj:=⟨Tryz.func156,by kernel_rfl,mixed⟩
def Yh:Gj.rs=[.t 6]:=rfl
noncomputable def OW:=BG Gj [] fun c a=>G c [a]
def Uh:C:=lpC 0 (OW .skip)
def Za:C:=(OW Uh).1
def Zp:Inn Gj Za 28:=inn [] Zh Tryz.ntmps156
def Lp:List (Nat×PT):=[(2,(pL [16,17] (pO [0,1,2,3,4,5,6,7,8,9,10,12] (.alt 11 (pO [13,14] (.alt 15 (pO [18,19] .done) (.alt 18 (pO [15,19] .done) .done))) (.alt 18 (pO [11,13,14,15,19] .done) .done)))))]
noncomputable def Fi:Cx:=⟨Tzp,157,Tryz.f157,110,[300036,300048,300060,300062,300066,300068,300073,300076,300092,300099,300104],[],[]⟩
instance DH:Good Fi:=⟨Tryz.func157,by kernel_rfl,mixed⟩
def V7:Fi.rs=[]:=rfl
noncomputable def Lj:=BG Fi Lp fun c a=>G c [a]
def SE:C:=lpC 0 (Lj .skip)
def WY:C:=(Lj SE).1
def Wf:Inn Fi WY 110:=inn Lp DH Tryz.ntmps157
noncomputable def E2:Cx:=⟨Tzp,158,Tryz.f158,46,[],[],[.t 5]⟩
instance G0:Good E2:=⟨Tryz.func158,by kernel_rfl,mixed⟩
def Qx:E2.rs=[.t 5]:=rfl
noncomputable def JL:=BG E2 [] fun c a=>G c [a]
def O9:C:=lpC 0 (JL .skip)
def SC:C:=(JL O9).1
def S8:Inn E2 SC 46:=inn [] G0 Tryz.ntmps158
noncomputable def GQ:Cx:=⟨Tzp,159,Tryz.f159,46,[],[],[.t 4]⟩
instance Xt:Good GQ:=⟨Tryz.func159,by kernel_rfl,mixed⟩
def Ww:GQ.rs=[.t 4]:=rfl
noncomputable def NT:=BG GQ [] fun c a=>G c [a]
def TZ:C:=lpC 0 (NT .skip)
def X8:C:=(NT TZ).1
def YH:Inn GQ X8 46:=inn [] Xt Tryz.ntmps159
noncomputable def Ek:Cx:=⟨Tzp,160,Tryz.f160,46,[],[],[.t 5]⟩
instance Gr:Good Ek:=⟨Tryz.func160,by kernel_rfl,mixed⟩
def Sz:Ek.rs=[.t 5]:=rfl
noncomputable def KG:=BG Ek [] fun c a=>G c [a]
def PZ:C:=lpC 0 (KG .skip)
def T1:C:=(KG PZ).1
def Tm:Inn Ek T1 46:=inn [] Gr Tryz.ntmps160
noncomputable def EZ:Cx:=⟨Tzp,161,Tryz.f161,8,[],[],[.t 3]⟩
instance SM:Good EZ:=⟨Tryz.func161,by kernel_rfl,mixed⟩
def Qt:EZ.rs=[.t 3]:=rfl
noncomputable def Si:=BG EZ [] (G · [])
def Ry:C:=(Si).1
def S4:Inn EZ Ry 8:=inn [] SM Tryz.ntmps161
noncomputable def ED:Cx:=⟨Tzp,162,Tryz.f162,9,[],[],[.t 4]⟩
instance Q1:Good ED:=⟨Tryz.func162,by kernel_rfl,mixed⟩
def Pv:ED.rs=[.t 4]:=rfl
noncomputable def Qh:=BG ED [] (G · [])
def QP:C:=(Qh).1
def Q9:Inn ED QP 9:=inn [] Q1 Tryz.ntmps162
noncomputable def C3:Cx:=⟨Tzp,163,Tryz.f163,9,[],[],[.t 4]⟩
instance Jn:Good C3:=⟨Tryz.func163,by kernel_rfl,mixed⟩
def JR:C3.rs=[.t 4]:=rfl
noncomputable def Jt:=BG C3 [] (G · [])
def Jg:C:=(Jt).1
def Jq:Inn C3 Jg 9:=inn [] Jn Tryz.ntmps163
noncomputable def E0:Cx:=⟨Tzp,164,Tryz.f164,14,[300006,300010],[],[.t 3]⟩
instance SO:Good E0:=⟨Tryz.func164,by kernel_rfl,mixed⟩
def Qu:E0.rs=[.t 3]:=rfl
noncomputable def Sj:=BG E0 [] (G · [])
def Rz:C:=(Sj).1
def S5:Inn E0 Rz 14:=inn [] SO Tryz.ntmps164
def JX:List (Nat×PT):=[(1,(pO [0,1,2,3,4,5,6,7,8,9,11,12,13,15] (.alt 10 (pO [14,16,17,18,19,20,21] .done) (.alt 14 (pO [16] (.alt 10 (pO [17,18,19,20,21] .done) (.alt 17 (pO [18,10,19,20,21] .done) .done))) .done))))]
noncomputable def E1:Cx:=⟨Tzp,165,Tryz.f165,26,[],[],[.t 4]⟩
instance SQ:Good E1:=⟨Tryz.func165,by kernel_rfl,mixed⟩
def Qw:E1.rs=[.t 4]:=rfl
noncomputable def Sk:=BG E1 JX (G · [])
def SB:C:=(Sk).1
def S7:Inn E1 SB 26:=inn JX SQ Tryz.ntmps165
noncomputable def Ej:Cx:=⟨Tzp,166,Tryz.f166,25,[],[],[.t 6]⟩
instance Tc:Good Ej:=⟨Tryz.func166,by kernel_rfl,mixed⟩
def Sy:Ej.rs=[.t 6]:=rfl
noncomputable def KF:=BG Ej [] fun c a=>G c [a]
def PY:C:=lpC 0 (KF .skip)
def T0:C:=(KF PY).1
def Tl:Inn Ej T0 25:=inn [] Tc Tryz.ntmps166
noncomputable def GU:Cx:=⟨Tzp,167,Tryz.f167,44,[300022,300035,300037,300040],[],[.c 6 (some 3)]⟩
instance ID:Good GU:=⟨Tryz.func167,by kernel_rfl,mixed⟩
def Wy:GU.rs=[.c 6 (some 3)]:=rfl
noncomputable def YZ:=BG GU [] (G · [])
def Xa:C:=(YZ).1
def YJ:Inn GU Xa 44:=inn [] ID Tryz.ntmps167
noncomputable def Gk:Cx:=⟨Tzp,218,Tryz.f218,24,[20,300016],[],[.t 4]⟩
instance Zi:Good Gk:=⟨Tryz.func218,by kernel_rfl,mixed⟩
def Yi:Gk.rs=[.t 4]:=rfl
noncomputable def Zt:=BG Gk [] (G · [])
def Zb:C:=(Zt).1
def Zq:Inn Gk Zb 24:=inn [] Zi Tryz.ntmps218
def KQ:List (Nat×PT):=[(8,(pO [0,1,2,3,4,5,6,7,8,9,11,12,13,15] (.alt 10 (pO [14,16,17,18,19,20,21] .done) (.alt 14 (pO [16] (.alt 10 (pO [17,18,19,20,21] .done) (.alt 17 (pO [18,10,19,20,21] .done) .done))) .done)))),(11,(pO [0,1,2,3,4,5,6,7,8,9,10,11,13,14,15,16,17,18,19,20] (.alt 12 (pO [21,22,23,24,25,26] .done) (.alt 21 (pO [12,22,23,24,25,26] .done) .done))))]
noncomputable def Ei:Cx:=⟨Tzp,219,Tryz.f219,115,[5,300085,300096,300106],[],[.t 8]⟩
instance Tb:Good Ei:=⟨Tryz.func219,by kernel_rfl,mixed⟩
def Sx:Ei.rs=[.t 8]:=rfl
noncomputable def Tv:=BG Ei KQ (G · [])
def TY:C:=(Tv).1
def Tj:Inn Ei TY 115:=inn KQ Tb Tryz.ntmps219
noncomputable def Ef:Cx:=⟨Tzp,220,Tryz.f220,22,[],[],[.t 4]⟩
instance T9:Good Ef:=⟨Tryz.func220,by kernel_rfl,mixed⟩
def Su:Ef.rs=[.t 4]:=rfl
noncomputable def Ts:=BG Ef [] (G · [])
def TS:C:=(Ts).1
def Tg:Inn Ef TS 22:=inn [] T9 Tryz.ntmps220
noncomputable def GR:Cx:=⟨Tzp,221,Tryz.f221,12,[],[],[.t 6]⟩
instance Xu:Good GR:=⟨Tryz.func221,by kernel_rfl,mixed⟩
def Wx:GR.rs=[.t 6]:=rfl
noncomputable def YY:=BG GR [] (G · [])
def X9:C:=(YY).1
def YI:Inn GR X9 12:=inn [] Xu Tryz.ntmps221
noncomputable def GN:Cx:=⟨Tzp,222,Tryz.f222,25,[300018],[],[.t 6]⟩
instance Xs:Good GN:=⟨Tryz.func222,by kernel_rfl,mixed⟩
def Wu:GN.rs=[.t 6]:=rfl
noncomputable def NR:=BG GN [] fun c a=>G c [a]
def TT:C:=lpC 0 (NR .skip)
def X5:C:=(NR TT).1
def YF:Inn GN X5 25:=inn [] Xs Tryz.ntmps222
def OY:List (Nat×PT):=[(6,(pO [0,1,2,3,4,5,7,8,9,10,11,12,14,18,22,25] (.alt 6 (pO [13,15,16,17,19,20,21,23,24,26,27] .done) (.alt 13 (pO [15,16] (.alt 6 (pO [17,19,20,21,23,24,26,27] .done) (.alt 17 (pO [19,20] (.alt 6 (pO [21,23,24,26,27] .done) (.alt 21 (pO [23] (.alt 6 (pO [24,26,27] .done) (.alt 24 (pO [6,26,27] .done) .done))) .done))) .done))) .done))))]
noncomputable def Gg:Cx:=⟨Tzp,223,Tryz.f223,80,[300019,300037,300048],[],[.t 6]⟩
instance OO:Good Gg:=⟨Tryz.func223,by kernel_rfl,mixed⟩
def Ye:Gg.rs=[.t 6]:=rfl
noncomputable def OU:=BG Gg OY fun c a=>G c [a]
def Ue:C:=lpC 0 (OU .skip)
def Z8:C:=(OU Ue).1
def Zm:Inn Gg Z8 80:=inn OY OO Tryz.ntmps223
def N4:List (Nat×PT):=[(3,(pO [0,1,2,3,4,5,6,7,8,10,11,12,13,14,15,9,16,17] .done)),(10,(pO [0,1,2,3,4,5,6,7,8,9,12,10,11,13] .done))]
noncomputable def GO:Cx:=⟨Tzp,224,Tryz.f224,117,[300024,300049,300067,300079,300106,300109],[],[.t 6]⟩
instance NC:Good GO:=⟨Tryz.func224,by kernel_rfl,mixed⟩
def Wv:GO.rs=[.t 6]:=rfl
noncomputable def NS:=BG GO N4 fun c a=>G c [a]
def TV:C:=lpC 0 (NS .skip)
def X6:C:=(NS TV).1
def YG:Inn GO X6 117:=inn N4 NC Tryz.ntmps224
def KO:List (Nat×PT):=[(4,(pO [0,1,2,3,4,5,7,8,9,6,10,11] .done))]
noncomputable def Eh:Cx:=⟨Tzp,225,Tryz.f225,43,[300010,300020,300030],[],[.t 6]⟩
instance Ta:Good Eh:=⟨Tryz.func225,by kernel_rfl,mixed⟩
def Sw:Eh.rs=[.t 6]:=rfl
noncomputable def KE:=BG Eh KO fun c a=>G c [a]
def PX:C:=lpC 0 (KE .skip)
def TW:C:=(KE PX).1
def Ti:Inn Eh TW 43:=inn KO Ta Tryz.ntmps225
def JW:List (Nat×PT):=[(1,(pO [0,1,2,4,5,6,3,7,8,9] .done)),(2,(pO [0,1,2,3,4,6,7,8,9,10,5,11,12,13] .done)),(23,(pO [0,1,2,3,4,5,7,8,9] (.alt 6 (pO [10,11] .done) (.alt 10 (pO [6,11] .done) .done))))]
noncomputable def DN:Cx:=⟨Tzp,226,Tryz.f226,101,[300040,300080,300091],[],[.t 6]⟩
instance SP:Good DN:=⟨Tryz.func226,by kernel_rfl,mixed⟩
def Qv:DN.rs=[.t 6]:=rfl
noncomputable def JK:=BG DN JW fun c a=>G c [a]
def Hl:C:=lpC 0 (JK .skip)
def SA:C:=(JK Hl).1
def S6:Inn DN SA 101:=inn JW SP Tryz.ntmps226
def Ln:List (Nat×PT):=[(4,(pO [0,1,2,3,5,6,7,8,9,10] (.alt 4 (pO [11,12,13] .done) (.alt 11 (pO [4,12,13] .done) .done)))),(7,(pO [0,1,2,3,4,5,6,7,8,10,11,12,13,9,14,15] .done)),(8,(pO [0,1,2,3,5,6,7,8] (.alt 4 (pO [9,10,11] .done) (.alt 9 (pO [4,10,11] .done) .done)))),(10,(pO [0,1,2,3,4,5,6,7,8,10,11,12,9,13,14] .done)),(12,(pO [0,1,2,3,4,5,6,7,8,10,9,11] .done)),(16,(pO [0,1,2,3,5,6,7,8] (.alt 4 (pO [9,10,11] .done) (.alt 9 (pO [4,10,11] .done) .done)))),(17,(pO [0,1,2,3,5,6,4,7,8,9] .done)),(19,(pO [0,1,2,3,4,5,6,8,9,10,11,12,13,14,19] (.alt 7 (pO [15,16,17,18,20] .done) (.alt 15 (pO [16] (.alt 7 (pO [17,18,20] .done) (.alt 17 (pO [7,18,20] .done) .done))) .done))))]
noncomputable def Ff:Cx:=⟨Tzp,227,Tryz.f227,168,[300014,300019,300026,300031,300043,300051,300064,300069,300080,300092,300102,300116,300121,300126,300141,300151,300156],[],[.t 6]⟩
instance W4:Good Ff:=⟨Tryz.func227,by kernel_rfl,mixed⟩
def V3:Ff.rs=[.t 6]:=rfl
noncomputable def Wj:=BG Ff Ln (G · [])
def WU:C:=(Wj).1
def EL:Inn Ff WU 168:=inn Ln W4 Tryz.ntmps227
noncomputable def FF:Cx:=⟨Tzp,228,Tryz.f228,19,[],[],[.t 4]⟩
instance Us:Good FF:=⟨Tryz.func228,by kernel_rfl,mixed⟩
def UE:FF.rs=[.t 4]:=rfl
noncomputable def Ku:=BG FF [] fun c a=>G c [a]
def QR:C:=lpC 0 (Ku .skip)
def U9:C:=(Ku QR).1
def Uy:Inn FF U9 19:=inn [] Us Tryz.ntmps228
noncomputable def Cj:Cx:=⟨Tzp,229,Tryz.f229,19,[],[],[.t 4]⟩
instance L7:Good Cj:=⟨Tryz.func229,by kernel_rfl,mixed⟩
def LD:Cj.rs=[.t 4]:=rfl
noncomputable def Ga:=BG Cj [] fun c a=>G c [a]
def Ji:C:=lpC 0 (Ga .skip)
def L4:C:=(Ga Ji).1
def L9:Inn Cj L4 19:=inn [] L7 Tryz.ntmps229
noncomputable def E4:Cx:=⟨Tzp,230,Tryz.f230,28,[2,5,6,7],[],[.t 4]⟩
instance SU:Good E4:=⟨Tryz.func230,by kernel_rfl,mixed⟩
def Qz:E4.rs=[.t 4]:=rfl
noncomputable def JM:=BG E4 [] fun c a=>G c [a]
def Oa:C:=lpC 0 (JM .skip)
def SF:C:=(JM Oa).1
def Sa:Inn E4 SF 28:=inn [] SU Tryz.ntmps230
noncomputable def HY:Cx:=⟨Tzp,231,Tryz.f231,8,[5],[],[.t 2]⟩
instance cI:Good HY:=⟨Tryz.func231,by kernel_rfl,mixed⟩
def Zy:HY.rs=[.t 2]:=rfl
noncomputable def c7:=BG HY [] (G · [])
def bP:C:=(c7).1
def cP:Inn HY bP 8:=inn [] cI Tryz.ntmps231
noncomputable def Gi:Cx:=⟨Tzp,259,Tryz.f259,22,[],[],[.t 4,.t 5]⟩
instance OP:Good Gi:=⟨Tryz.func259,by kernel_rfl,mixed⟩
def Yg:Gi.rs=[.t 4,.t 5]:=rfl
noncomputable def OV:=BG Gi [] fun c a=>G c [a]
def Ug:C:=lpC 0 (OV .skip)
def Z9:C:=(OV Ug).1
def Zo:Inn Gi Z9 22:=inn [] OP Tryz.ntmps259
noncomputable def EH:Cx:=⟨Tzp,260,Tryz.f260,8,[300005],[],[.t 3]⟩
instance Q4:Good EH:=⟨Tryz.func260,by kernel_rfl,mixed⟩
def Pz:EH.rs=[.t 3]:=rfl
noncomputable def Qj:=BG EH [] (G · [])
def QW:C:=(Qj).1
def Qd:Inn EH QW 8:=inn [] Q4 Tryz.ntmps260
noncomputable def EJ:Cx:=⟨Tzp,261,Tryz.f261,25,[300018],[],[.t 6]⟩
instance Q6:Good EJ:=⟨Tryz.func261,by kernel_rfl,mixed⟩
def QB:EJ.rs=[.t 6]:=rfl
noncomputable def Ic:=BG EJ [] fun c a=>G c [a]
def Nk:C:=lpC 0 (Ic .skip)
def QZ:C:=(Ic Nk).1
def Qf:Inn EJ QZ 25:=inn [] Q6 Tryz.ntmps261
noncomputable def E3:Cx:=⟨Tzp,262,Tryz.f262,27,[300008,300012,300017,300019,300022],[],[.t 6]⟩
instance SR:Good E3:=⟨Tryz.func262,by kernel_rfl,mixed⟩
def Qy:E3.rs=[.t 6]:=rfl
noncomputable def Sl:=BG E3 [] (G · [])
def SD:C:=(Sl).1
def S9:Inn E3 SD 27:=inn [] SR Tryz.ntmps262
noncomputable def Cp:Cx:=⟨Tzp,263,Tryz.f263,50,[],[],[]⟩
instance FZ:Good Cp:=⟨Tryz.func263,by kernel_rfl,mixed⟩
def Ox:Cp.rs=[]:=rfl
noncomputable def IJ:=BG Cp [] fun c a=>G c [a]
def HJ:C:=lpC 0 (IJ .skip)
def P0:C:=(IJ HJ).1
def Pf:Inn Cp P0 50:=inn [] FZ Tryz.ntmps263
attribute [go_sem] J3 dN Sv UK V6 UJ V4 QA V5 Yf Yh V7 Qx Ww Sz Qt Pv JR Qu Qw Sy Wy Yi Sx Su Wx Wu Ye Wv Sw Qv V3 UE LD Qz Zy Yg Pz QB Qy Ox
end
structure Nd where
 k:Int
 n:Int
 ar:List Nat
 p:Nat
variable {c l l':List Nd} {x y:Nd}
def Nd.row (x:Nd):List AV:=[.d (.int .i64 x.k),.d (.int .i64 x.n),.d (.sl (x.ar.map CN)),.d (.int .i64 (x.p:Int))]
def ndC (l:List Nd):List AV:=(l.map Nd.row).flatten
abbrev tkN:Nat:=290
def ndV (l:List Nd) (j:Nat):AV:=match l with
 |[]=>.Ad
 |_::_=>.ms j l.length 4 tkN
def Em (h:l≠[]) (j:Nat):ndV l j= .ms j l.length 4 tkN:=by
 cases l with
 |nil=>exact absurd rfl h
 |cons x l=>rfl
def AVG (l m:List Nd):ndC (l++m)=ndC l++ndC m:=by simp [ndC]
def VO:∀l:List Nd,(ndC l).length=l.length * 4
 |[]=>rfl
 |x::l=>by
  have:=VO l;simp only [ndC,AF,BW,AY,A0] at this ⊢;rw [this];simp [Nd.row];omega
def Sn:∀ {l:List Nd} {i:Nat} {x:Nd},l[i]?=some x->(ndC l)[i * 4]?=some (.d (.int .i64 x.k))/\(ndC l)[i * 4+1]?=some (.d (.int .i64 x.n))/\(ndC l)[i * 4+2]?=some (.d (.sl (x.ar.map CN)))/\(ndC l)[i * 4+3]?=some (.d (.int .i64 (x.p:Int)))
 |y::l,0,x,h=>by
  simp only [Aw,AM] at h;subst h;exact ⟨rfl,rfl,rfl,rfl⟩
 |y::l,i+1,x,h=>by
  have:=Sn (l:=l) (i:=i) (x:=x) (by simpa using h)
  have hk:∀j,(ndC (y::l))[(i+1) * 4+j]?=(ndC l)[i * 4+j]?:=fun j=>by
   rw [show (i+1) * 4+j=4+(i * 4+j) from by omega];simp only [ndC,AF,BW];rw [As (by simp [Nd.row])];simp [Nd.row]
  have h0:=hk 0;simp only [CF] at h0;rw [h0,hk,hk,hk];exact this
def RK (d:Nat->Nat) (l c:List Nd):Prop:=∀(i:Nat) (x y:Nd),l[i]?=some x->c[i]?=some y->(y.p=i/\x.p=i)\/(y.p≠i/\x.p≠i/\d y.p < d i/\∃z,l[y.p]?=some z/\z.p=x.p)
structure Rep (l c:List Nd):Prop where
 len:c.length=l.length
 sh:∀(i:Nat) (x y:Nd),l[i]?=some x->c[i]?=some y->y.k=x.k/\y.n=x.n/\y.ar=x.ar
 rk:∃d,RK d l c
structure ER (l:List Nd):Prop where
 p:∀(i:Nat) (x:Nd),l[i]?=some x->∃z,l[x.p]?=some z/\z.p=x.p
 ar:∀(i:Nat) (x:Nd),l[i]?=some x->∀a∈x.ar,a < l.length
def Rep.at (h:Rep l c) (hi:l[i]?=some x):∃y,c[i]?=some y/\y.k=x.k/\y.n=x.n/\y.ar=x.ar:=by
 have:i < c.length:=by rw [h.len];exact (AE.1 hi).1
 exact ⟨c[i],by simp [this],h.sh i x _ hi (by simp [this])⟩
def Rep.nil:Rep [] []:=⟨rfl,fun i x y h=>by simp at h,fun _=>0,fun i x y h=>by simp at h⟩
def ER.nil:ER []:=⟨fun i x h=>by simp at h,fun i x h=>by simp at h⟩
def ND {α:Type} {l:List α} {a x:α} (h:(l++[a])[i]?=some x):l[i]?=some x\/(i=l.length/\x=a):=by
 by_cases hi:i < l.length
 . rw [BC hi] at h;exact .inl h
 . rw [As (by omega)] at h;have:=(AE.1 h).1;simp at this;have e:i=l.length:=by omega
   subst e;simp at h;exact .inr ⟨rfl,h.symm⟩
def rJ {α:Type} {l:List α} {x:α} (h:l[i]?=some x) (m:List α):(l++m)[i]?=some x:=by
 rw [BC (AE.1 h).1];exact h
def AQU {α:Type} (l:List α) (x:α):(l++[x])[l.length]?=some x:=by simp
def ER.add (h:ER l) (k n:Int) (ar:List Nat) (ha:∀a∈ar,a < l.length):ER (l++[⟨k,n,ar,l.length⟩]):=by
 refine ⟨fun i x hi=>?_,fun i x hi a hm=>?_⟩
 . rcases ND hi with hi|⟨rfl,rfl⟩
   . obtain ⟨z,hz,e⟩:=h.p i x hi;exact ⟨z,rJ hz _,e⟩
   . exact ⟨_,AQU _ _,rfl⟩
 . simp only [AY,Bm];rcases ND hi with hi|⟨rfl,rfl⟩
   . have:=h.ar i x hi a hm;omega
   . have:=ha a hm;omega
def Rep.add (h:Rep l c) (k n:Int) (ar:List Nat):Rep (l++[⟨k,n,ar,l.length⟩]) (c++[⟨k,n,ar,l.length⟩]):=by
 obtain ⟨d,hd⟩:=h.rk;refine ⟨by simp [h.len],fun i x y hi hy=>?_,d,fun i x y hi hy=>?_⟩
 . rcases ND hi with hi|⟨rfl,rfl⟩
   . rcases ND hy with hy|⟨rfl,rfl⟩
     . exact h.sh i x y hi hy
     . have:=(AE.1 hi).1;have:=h.len;omega
   . rcases ND hy with hy|⟨_,rfl⟩
     . have:=(AE.1 hy).1;have:=h.len;omega
     . exact ⟨rfl,rfl,rfl⟩
 . rcases ND hi with hi|⟨rfl,rfl⟩
   . rcases ND hy with hy|⟨rfl,rfl⟩
     . rcases hd i x y hi hy with h1|⟨a,b,e,z,hz,hp⟩
       . exact .inl h1
       . exact .inr ⟨a,b,e,z,rJ hz _,hp⟩
     . have:=(AE.1 hi).1;have:=h.len;omega
   . rcases ND hy with hy|⟨_,rfl⟩
     . have:=(AE.1 hy).1;have:=h.len;omega
     . exact .inl ⟨rfl,rfl⟩
def RK.AKA {d:Nat->Nat} (hd:RK d l c) {z:Nd} (hy:c[i]?=some y) (hne:y.p≠i) (hz:c[y.p]?=some z):RK d l (c.set i { y with p:=z.p}):=by
 have hil:i < c.length:=(AE.1 hy).1;intro j x w Z hw;by_cases e:i=j
 . subst e;rw [BK hil] at hw;cases hw;rcases hd i x y Z hy with ⟨h1,_⟩|⟨_,hb,hc,u,hu,hp⟩
   . exact absurd h1 hne
   . rcases hd _ u z hu hz with ⟨h1,h2⟩|⟨_,_,h3,u',hu',hp'⟩
     . refine .inr ⟨?_,hb,?_,?_⟩
       . simp only;rw [h1];exact hne
       . simp only;rw [h1];exact hc
       . simp only;rw [h1];exact ⟨u,hu,hp⟩
     . refine .inr ⟨fun e=>?_,hb,by simp only;omega,u',hu',by rw [hp',hp]⟩;simp only at e;rw [e] at h3;omega
 . rw [BJ e] at hw;exact hd j x w Z hw
def Rep.AKA {l c:List Nd} (h:Rep l c) {i:Nat} {y z:Nd} (hy:c[i]?=some y) (hne:y.p≠i) (hz:c[y.p]?=some z):Rep l (c.set i { y with p:=z.p}):=by
 obtain ⟨d,hd⟩:=h.rk;have hil:i < c.length:=(AE.1 hy).1;refine ⟨by simp [h.len],fun j x w Z hw=>?_,d,hd.AKA hy hne hz⟩;by_cases e:i=j
 . subst e;rw [BK hil] at hw;cases hw;exact h.sh i x y Z hy
 . rw [BJ e] at hw;exact h.sh j x w Z hw
def PB (a b:Nat) (l:List Nd):List Nd:=l.map fun x=>if x.p=a then { x with p:=b} else x
def LL (a b:Nat) (l:List Nd):(PB a b l).length=l.length:=by simp [PB]
def pI (h:(PB a b l)[i]?=some x):∃y,l[i]?=some y/\x.k=y.k/\x.n=y.n/\x.ar=y.ar/\x.p=if y.p=a then b else y.p:=by
 unfold PB at h;rw [Am] at h;cases hl:l[i]? with
 |none=>rw [hl] at h;cases h
 |some y=>
  rw [hl] at h;simp only [Ac,AM] at h;refine ⟨y,rfl,?_⟩;subst h;split<;>simp_all
def AWF (h:l[i]?=some y):(PB a b l)[i]?=some (if y.p=a then { y with p:=b} else y):=by
 unfold PB;rw [Am,h];rfl
def UR (h:l[i]?=some y):∃z,(PB a b l)[i]?=some z/\z.k=y.k/\z.n=y.n/\z.ar=y.ar/\z.p=if y.p=a then b else y.p:=by
 refine ⟨_,AWF h,?_⟩;split<;>simp_all
def ER.uni (h:ER l) (hb:l[b]?=some x) (Z:x.p=b) (hab:a≠b):ER (PB a b l):=by
 refine ⟨fun i y hi=>?_,fun i y hi c hc=>?_⟩
 . obtain ⟨z,hz,_,_,_,hp⟩:=pI hi;by_cases e:z.p=a
   . rw [if_pos e] at hp;rw [hp];obtain ⟨u,hu,_,_,_,hup⟩:=UR (a:=a) (b:=b) hb;exact ⟨u,hu,by rw [hup,Z,if_neg (A6 hab)]⟩
   . rw [if_neg e] at hp;rw [hp];obtain ⟨w,hw,hwp⟩:=h.p i z hz;obtain ⟨u,hu,_,_,_,hup⟩:=UR (a:=a) (b:=b) hw;exact ⟨u,hu,by rw [hup,hwp,if_neg e]⟩
 . obtain ⟨z,hz,_,_,har,_⟩:=pI hi;rw [LL];exact h.ar i z hz c (har ▸ hc)
def Rep.uni (h:Rep l c) {xb:Nd} (ha:l[a]?=some x) (Z:x.p=a) (hb:l[b]?=some xb) (hxb:xb.p=b) (hab:a≠b) (hy:c[a]?=some y):Rep (PB a b l) (c.set a { y with p:=b}):=by
 obtain ⟨d,hd⟩:=h.rk;have hil:a < c.length:=(AE.1 hy).1;refine ⟨by simp [h.len,LL],fun j u w hu hw=>?_,fun j=>(if (l[j]?.map Nd.p)=some a then d j+d b+1 else d j),fun j u w hu hw=>?_⟩
 . obtain ⟨v,hv,h1,h2,h3,_⟩:=pI hu;rw [h1,h2,h3];by_cases e:a=j
   . subst e;rw [BK hil] at hw;cases hw;exact h.sh a v y hv hy
   . rw [BJ e] at hw;exact h.sh j v w hv hw
 . obtain ⟨v,hv,_,_,_,hup⟩:=pI hu;by_cases e:a=j
   . subst e;rw [BK hil] at hw;cases hw;rw [ha] at hv;cases hv;rw [if_pos Z] at hup;right;obtain ⟨u',hu',_,_,_,hup'⟩:=UR (a:=a) (b:=b) hb;refine ⟨A6 hab,by rw [hup];exact A6 hab,?_,u',hu',by rw [hup',hxb,if_neg (A6 hab),hup]⟩;simp only [ha,hb,Ac,AM,Z,hxb,if_true,if_neg (A6 hab)];omega
   . rw [BJ e] at hw;rcases hd j v w hv hw with ⟨h1,h2⟩|⟨h1,h2,h3,z,hz,hzp⟩
     . left;have:¬v.p=a:=fun e'=>e (by omega);rw [hup,if_neg this];exact ⟨h1,h2⟩
     . right;obtain ⟨u',hu',_,_,_,hup'⟩:=UR (a:=a) (b:=b) hz;refine ⟨h1,?_,?_,u',hu',by rw [hup',hup,hzp]⟩
       . rw [hup];split
         . rename_i e';intro eb;subst eb;rw [hb] at hv;cases hv;omega
         . exact h2
       . simp only [hv,hz,Ac,AM,hzp];split<;>omega
def Rep.root (h:Rep l c) (Z:l[i]?=some x) (hy:c[i]?=some y) (e:x.p=i):y.p=i:=by
 obtain ⟨d,hd⟩:=h.rk;rcases hd i x y Z hy with ⟨h1,_⟩|⟨_,h2,_⟩
 . exact h1
 . exact absurd e h2
structure SN (Y:AH) (i:Nat) (l:List Nd) (fl:Bool) (rest:List AV) (j:Nat):Prop where
 blk:Y.blk i=some (ndV l j::.d (.bool fl)::rest)
 Gs:ER l
 nd:l≠[]->j≠i/\∃c,Rep l c/\Y.blk j=some (ndC c)
structure Fr (Y:AH) (i:Nat) (l:List Nd) (j:Nat) (σ':AH) (l':List Nd) (j':Nat):Prop where
 blk:∀k,k≠i->(l≠[]->k≠j)->Y.blk k≠none->σ'.blk k=Y.blk k
 ii:Y.blk i≠none->σ'.blk i≠none
 nw:l'≠[]->(l≠[]/\j'=j)\/Y.blk j'=none
 gt:σ'.gt=Y.gt
 tok:∀t,Y.tok t=true->σ'.tok t=true
 bt:∀k x,Y.bt k=some x->σ'.bt k=some x
def Fr.refl (Y:AH) (i:Nat) (l:List Nd) (j:Nat):Fr Y i l j Y l j:=⟨fun _ _ _ _=>rfl,fun h=>h,fun h=>.inl ⟨h,rfl⟩,rfl,fun _ h=>h,fun _ _ h=>h⟩
def Fr.trans {Y σ' σ'':AH} {i j j' j'':Nat} {l l' l'':List Nd} (h:Fr Y i l j σ' l' j') (k:Fr σ' i l' j' σ'' l'' j'') (hi:Y.blk i≠none):Fr Y i l j σ'' l'' j'':=by
 have hk:∀x,x≠i->(l≠[]->x≠j)->Y.blk x≠none->(l'≠[]->x≠j'):=fun x Z hxj hn hl e=>by
  rcases h.nw hl with ⟨a,b⟩|a
  . exact hxj a (e.trans b)
  . rw [<- e] at a;exact hn a
 refine ⟨fun x Z hxj hn=>?_,fun h'=>k.ii (h.ii h'),fun hl=>?_,k.gt.trans h.gt,fun t ht=>k.tok t (h.tok t ht),fun y z hz=>k.bt y z (h.bt y z hz)⟩
 . have e:=h.blk x Z hxj hn;rw [k.blk x Z (hk x Z hxj hn) (by rw [e];exact hn),e]
 . rcases k.nw hl with ⟨a,rfl⟩|a
   . exact h.nw a
   . by_cases hl0:l≠[]/\j''=j
     . exact .inl hl0
     . right;cases hb:Y.blk j'' with
       |none=>rfl
       |some cs=>
        exfalso;by_cases e:j''=i
        . subst e;exact h.ii hi a
        . have:=h.blk j'' e (fun hl' e'=>hl0 ⟨hl',e'⟩) (by rw [hb];simp);rw [a,hb] at this;cases this
def rtN (l:List Nd) (a:Nat):Nat:=((l[a]?).map Nd.p).getD 0
def LG (h:l[i]?=some x):rtN l i=x.p:=by simp [rtN,h]
def Ke (l:List Nd) (k n:Int) (ar:List Nat):List Nd:=l++[⟨k,n,ar,l.length⟩]
def H7 (l:List Nd) (k n:Int) (ar:List Nat):(Ke l k n ar).length=l.length+1:=by simp [Ke]
def xT {α:Type} {p q:α->Bool}:∀ {l:List α},(∀x∈l,q x=true->p x=true)->∀ {a:α},a∈l->p a=true->q a=false->l.countP q < l.countP p
 |x::l,h,a,ha,hp,hq=>by
  rw [Fj,Fj];have hm:l.countP q<=l.countP p:=List.countP_mono_left fun y hy e=>h y (AU _ hy) e;rcases Az.1 ha with rfl|ha
  . rw [hp,hq];simp;omega
  . have:=xT (fun y hy=>h y (AU _ hy)) ha hp hq;have Z:=h x (AW);cases hqx:q x
    . simp;omega
    . rw [Z hqx];simp;omega
def rts (l:List Nd):Nat:=(Av l.length).countP fun i=>decide (rtN l i=i)
def OD (l:List Nd):rts l<=l.length:=by
 have:=Vr (p:=fun i=>decide (rtN l i=i)) (l:=Av l.length);simpa [rts] using this
def AV4 (h:l[a]?=some x) (Z:x.p=a):0 < rts l:=by
 unfold rts;rw [List.countP_pos_iff];exact ⟨a,Bz.2 (AE.1 h).1,by simp [LG h,Z]⟩
def AKX {xb:Nd} (ha:l[a]?=some x) (Z:x.p=a) (hb:l[b]?=some xb) (hxb:xb.p=b) (hab:a≠b):rts (PB a b l) < rts l:=by
 unfold rts;rw [LL];refine xT (fun i hi e=>?_) (a:=a) (Bz.2 (AE.1 ha).1) (by simp [LG ha,Z]) ?_
 . have hi':=Bz.1 hi;have hl:l[i]?=some l[i]:=by simp [hi']
   obtain ⟨z,hz,_,_,_,hp⟩:=UR (a:=a) (b:=b) hl;simp only [decide_eq_true_eq] at e ⊢;rw [LG hz,hp] at e;rw [LG hl];split at e
   . rename_i e';subst e;rw [hb] at hl;have:xb=l[b]:=by simpa using hl
     rw [<- this] at e';omega
   . exact e
 . obtain ⟨z,hz,_,_,_,hp⟩:=UR (a:=a) (b:=b) ha;rw [LG hz,hp,if_pos Z];simpa using fun e=>hab e.symm
abbrev SS:=List Nd×Bool
def KR:Nat->SS->Nat->Nat->SS
 |0,s,_,_=>s
 |k+1,s,a,b=>
  if rtN s.1 a=rtN s.1 b then s else
  match s.1[rtN s.1 a]?,s.1[rtN s.1 b]? with
  |some x,some y=>
   if x.k=0 then (PB (rtN s.1 a) (rtN s.1 b) s.1,s.2)
                                   else if y.k=0 then (PB (rtN s.1 b) (rtN s.1 a) s.1,s.2)
                                   else if x.k=y.k/\x.n=y.n/\x.ar.length=y.ar.length then (x.ar.zip y.ar).foldl (fun s p=>KR k s p.1 p.2) (PB (rtN s.1 a) (rtN s.1 b) s.1,s.2)
                                   else (s.1,true)
  |_,_=>s
def jN {α:Type} (f:SS->α->SS) (h:∀s x,(f s x).1.length=s.1.length):∀(l:List α) (s:SS),(l.foldl f s).1.length=s.1.length
 |[],s=>rfl
 |x::l,s=>by rw [Au,jN f h l,h]
def lL:∀(k:Nat) (s:SS) (a b:Nat),(KR k s a b).1.length=s.1.length
 |0,s,a,b=>rfl
 |k+1,s,a,b=>by
  rw [KR];split
  . rfl
  . split
    . split
      . exact LL _ _ _
      . split
        . exact LL _ _ _
        . split
          . rw [jN (fun (s:SS) (x:Nat×Nat)=>KR k s x.1 x.2) (fun s x=>lL k s x.1 x.2)];exact LL _ _ _
          . rfl
    . rfl
def uni (s:SS) (a b:Nat):SS:=KR s.1.length s a b
def ABZ (s:SS) (a b:Nat):(uni s a b).1.length=s.1.length:=lL _ _ _ _
mutual
def Eu (ar:List Nat):List Nd->Ty->Nat×List Nd
 |l,.mk k n us=>if k=4 then (ar.getD n.toNat 0,l) else let r:=B9 ar l us;(r.2.length,Ke r.2 k n r.1)
def B9 (ar:List Nat):List Nd->List Ty->List Nat×List Nd
 |l,[]=>([],l)
 |l,t::ts=>let r:=Eu ar l t;let q:=B9 ar r.2 ts;(r.1::q.1,q.2)
end
def Fw (l:List Nd):Nat->List Nd
 |0=>l
 |n+1=>Ke (Fw l n) 0 0 []
def KB (l:List Nd):∀n,(Fw l n).length=l.length+n
 |0=>rfl
 |n+1=>by rw [Fw,H7,KB l n];omega
mutual
def Ve (n:Nat):Ty->Bool
 | .mk k m us=>if k=4 then decide (0<=m/\m < (n:Int)) else LM n us
def LM (n:Nat):List Ty->Bool
 |[]=>true
 |t::ts=>Ve n t&&LM n ts
end
def UT {n:Nat}:∀ {ts:List Ty},LM n ts=true->∀t∈ts,Ve n t=true
 |t::ts,h,u,hu=>by
  rw [LM,AO] at h;rcases Az.1 hu with rfl|hu
  . exact h.1
  . exact UT h.2 u hu
structure AaF (l m:List Nd) (c:Nat):Prop where
 le:l.length<=m.length
 hi:m.length<=l.length+c
mutual
def fI (ar:List Nat):∀(l:List Nd) (t:Ty),AaF l (Eu ar l t).2 t.size
 |l,.mk k n us=>by
  rw [Eu];split
  . exact ⟨AS _,by simp⟩
  . have h:=MM ar l us;refine ⟨?_,?_⟩
    . simp only [H7];have:=h.le;omega
    . simp only [H7,Ty.size];have:=h.hi;omega
def MM (ar:List Nat):∀(l:List Nd) (ts:List Ty),AaF l (B9 ar l ts).2 (Ty.AQ ts)
 |l,[]=>⟨AS _,by simp [B9]⟩
 |l,t::ts=>by
  have h1:=fI ar l t;have h2:=MM ar (Eu ar l t).2 ts;simp only [B9];exact ⟨Af h1.le h2.le,by have:=h1.hi;have:=h2.hi;simp only [Ty.AQ];omega⟩
end
def MN (ar:List Nat):∀(l:List Nd) (ts:List Ty),(B9 ar l ts).1.length=ts.length
 |l,[]=>rfl
 |l,t::ts=>by simp only [B9,A0,MN ar _ ts]
mutual
def rW {ar:List Nat}:∀ {l:List Nd} {t:Ty},Ve ar.length t=true->(∀a∈ar,a < l.length)->(Eu ar l t).1 < (Eu ar l t).2.length
 |l,.mk k n us,h,ha=>by
  rw [Ve] at h;rw [Eu];split
  . rename_i hk;rw [if_pos hk] at h;simp only [decide_eq_true_eq] at h;have hn:n.toNat < ar.length:=by omega
    simp only [A2,Ay hn,BA];exact ha _ (E5 hn)
  . simp only [H7];omega
def ZK {ar:List Nat}:∀ {l:List Nd} {ts:List Ty},LM ar.length ts=true->(∀a∈ar,a < l.length)->∀a∈(B9 ar l ts).1,a < (B9 ar l ts).2.length
 |l,[],h,ha,a,hm=>by simp [B9] at hm
 |l,t::ts,h,ha,a,hm=>by
  rw [LM,AO] at h;have h1:=rW h.1 ha;have hle:=(fI ar l t).le;have hle2:=(MM ar (Eu ar l t).2 ts).le;simp only [B9,Az] at hm ⊢;rcases hm with rfl|hm
  . omega
  . exact ZK h.2 (fun b hb=>by have:=ha b hb;omega) a hm
end
def l7 (ar:List Nat) (t:Ty):∀(ts:List Ty) (l:List Nd),B9 ar l (ts++[t])=((B9 ar l ts).1++[(Eu ar (B9 ar l ts).2 t).1],(Eu ar (B9 ar l ts).2 t).2)
 |[],l=>rfl
 |u::ts,l=>by
  rw [AX,B9];simp only [l7 ar t ts];simp only [B9,AX]
def AD8 (l:List Nd) (j:Nat):(ndV l j).B1=true/\(ndV l j).BS=true/\(ndV l j).cells=[ndV l j]/\(∀k,(ndV l j).CL k=false)/\Tx (ndV l j)=some (.d (.int .i64 l.length)):=by
 cases l<;>exact ⟨rfl,rfl,rfl,fun _=>rfl,rfl⟩
def Di (Y:AH) (i k:Nat):(Y.Cs i).blk k=if k=i then none else Y.blk k:=rfl
def PO.nd {K:CW} {F:Fm} {L:Lm} {Y:AH} {d:Option Nat} {i j bytes:Nat} {l:List Nd} {fl:Bool} {rest:List AV} {x:AV} {k n:Int} {ar:List Nat} (h:SN Y i l fl rest j)
 (Z:x.rows=some [[.int .i64 k,.int .i64 n,.sl (ar.map CN),.int .i64 (l.length:Int)]]) (hl:l.length<=900000000) (ha:∀a∈ar,a < l.length) (hb:bytes<=10000)
 (hK:∀j' τ,τ.blk i=some (ndV l j::.d (.bool fl)::rest)->SN (τ.AL i (.ms j' (l.length+1) 4 tkN::.d (.bool fl)::rest)) i (Ke l k n ar) fl rest j'->
   Fr Y i l j (τ.AL i (.ms j' (l.length+1) 4 tkN::.d (.bool fl)::rest)) (Ke l k n ar) j'->K (BL d (.ms j' (l.length+1) 4 tkN) F) L τ):PO tkN 4 bytes (ndV l j) x d K F L Y:=by
 have hbi:=h.blk;have hne:Ke l k n ar≠[]:=by simp [Ke]
 have hV:∀j',ndV (Ke l k n ar) j'= .ms j' (l.length+1) 4 tkN:=fun j'=>by rw [Em hne,H7]
 by_cases hl0:l=[]
 . subst hl0;refine PO.mk (n:=0) (cs:=[]) (σ1:=Y) rfl Z (by simp) (by simp) (by simp) hb (fun j' hj=>?_);have hji:j'≠i:=fun e=>by rw [e,hbi] at hj;cases hj
   refine hK j' _ (by rw [AJ,if_neg (A6 hji)];exact hbi) ⟨by rw [AJ,if_pos rfl,hV],h.Gs.add k n ar ha,fun _=>⟨hji,_,Rep.nil.add k n ar,?_⟩⟩ ⟨fun k' hk _ hn=>?_,fun _=>by simp [AJ],fun _=>.inr hj,rfl,fun _ h=>h,fun _ _ h=>h⟩
   . rw [AJ,if_neg hji,AJ,if_pos rfl];simp [E9,ndC,Nd.row]
   . rw [AJ,if_neg hk,AJ,if_neg (fun e=>hn (by rw [e];exact hj))]
 . obtain ⟨hji0,c,hrep,hbj⟩:=h.nd hl0;rw [Em hl0];refine PO.mk (n:=l.length) (cs:=ndC c) (σ1:=Y.Cs j) (by simp [OI,hbj,VO,hrep.len]) Z (by simp) (by simp) (by simp;omega) hb (fun j' hj=>?_);have hji:j'≠i:=fun e=>by rw [e,hbi] at hj;cases hj
   refine hK j' _ (by rw [AJ,if_neg (A6 hji),Di,if_neg (A6 hji0)];exact hbi) ⟨by rw [AJ,if_pos rfl,hV],h.Gs.add k n ar ha,fun _=>⟨hji,_,hrep.add k n ar,?_⟩⟩ ⟨fun k' hk hkj hn=>?_,fun _=>by simp [AJ],fun _=>.inr hj,rfl,fun _ h=>h,fun _ _ h=>h⟩
   . rw [AJ,if_neg hji,AJ,if_pos rfl,AVG];simp [E9,ndC,Nd.row]
   . rw [AJ,if_neg hk,AJ,if_neg (fun e=>hn (by rw [e];exact hj)),Di,if_neg (hkj hl0)]
def SNQ (Y:AH) (i:Nat) (l:List Nd) (rest:List AV) (j:Nat) (s:SS) (v0:AV) (v:AV) (σ':AH):Prop:=v=v0/\∃j',SN σ' i s.1 s.2 rest j'/\Fr Y i l j σ' s.1 j'
def nA (n:Nat):AV:= .d (.int .i64 (n:Int))
structure Rj (v:AV) (rows:List (List DV)):Prop where
 dv:v.dv=some (.sl rows)
 cell:v.B1=true
 BS:v.BS=true
 cells:v.cells=[v]
 CL:∀k,v.CL k=false
def Rj.d (rows:List (List DV)):Rj (.d (.sl rows)) rows:=⟨rfl,rfl,rfl,rfl,fun _=>rfl⟩
def Rj.Ad:Rj .Ad []:=⟨rfl,rfl,rfl,rfl,fun _=>rfl⟩
def JU (i j:Nat) (l:List Nd) (fl:Bool) (rest:List AV) (Y:AH) (k n:Int) (v:AV) (ar:List Nat) (h:SN Y i l fl rest j) (hv:Rj v (ar.map CN)) (ha:∀a∈ar,a < l.length) (hl:l.length<=900000000):
 AR Tzp 218 [.gp i 0,.agg [.d (.int .i64 k),.d (.int .i64 n),v]] Y (SNQ Y i l rest j (Ke l k n ar,fl) (nA l.length)):=by
 have hbi:=h.blk;obtain ⟨c1,c2,c3,c4,c5⟩:=AD8 l j;refine Zq (by simp) ?_;rw [BD];(repeat' (refine wP ?_<;>try simp only [hbi,c1,c5,hv.dv,hv.cell,go_sem]));refine PO.nd h rfl hl ha (by omega) (fun j' τ h1 h2 h3=>?_);simp only [h1,go_sem];(repeat' (refine wP ?_<;>try simp only [go_sem]));exact ⟨rfl,j',h2,h3⟩
def Fq (i j:Nat) (l:List Nd) (fl:Bool) (rest:List AV) (Y:AH) (h:SN Y i l fl rest j) (hl:l.length<=900000000):
 AR Tzp 154 [.gp i 0] Y (SNQ Y i l rest j (Ke l 0 0 [],fl) (nA l.length)):=by
 refine Wd (by simp) ?_;rw [Bj];(repeat' (refine wP ?_<;>try simp only [go_sem]));refine AI.mk rfl (JU i j l fl rest Y 0 0 .Ad [] h Rj.Ad (by simp) hl) ?_;rintro _ σ' ⟨rfl,j',h2,h3⟩;simp only [nA];simp only [go_sem];(repeat' (refine wP ?_<;>try simp only [go_sem]));exact ⟨rfl,j',h2,h3⟩
def Bt (i j:Nat) (l:List Nd) (fl:Bool) (rest:List AV) (Y:AH) (k:Int) (v:AV) (ar:List Nat) (h:SN Y i l fl rest j) (hv:Rj v (ar.map CN)) (ha:∀a∈ar,a < l.length) (hl:l.length<=900000000):
 AR Tzp 221 [.gp i 0,.d (.int .i64 k),v] Y (SNQ Y i l rest j (Ke l k 0 ar,fl) (nA l.length)):=by
 refine YI (by simp) ?_;rw [DK];(repeat' (refine wP ?_<;>try simp only [hv.cell,hv.cells,go_sem]));refine AI.mk (by simp [AV.BS]) (JU i j l fl rest Y k 0 v ar h hv ha hl) ?_;rintro _ σ' ⟨rfl,j',h2,h3⟩;simp only [nA];simp only [go_sem];(repeat' (refine wP ?_<;>try simp only [go_sem]));exact ⟨rfl,j',h2,h3⟩
def SN.same {Y σ':AH} {i j:Nat} {l:List Nd} {fl:Bool} {rest:List AV} (h:SN Y i l fl rest j):∀ {l':List Nd},l'=l->SN Y i l' fl rest j:=fun e=>by rw [e];exact h
def ltT (h:a < b):((a:Int) < (b:Int))=True:=by simp [h]
def AJJ (h:c[n]?=some y) (p:Nat):(ndC c).take (n * 4+3)++[.d (.int .i64 (p:Int))]++(ndC c).drop (n * 4+3+1)=ndC (c.set n { y with p:=p}):=by
 induction c generalizing n with
 |nil=>simp at h
 |cons x c ih=>
  cases n with
  |zero=>
   simp only [Aw,AM] at h;subst h;rfl
  |succ n=>
   have:=ih (n:=n) (by simpa using h);simp only [CR];rw [show ndC (x::c)=x.row++ndC c from by simp [ndC],show ndC (x::c.set n { y with p:=p})=x.row++ndC (c.set n { y with p:=p}) from by simp [ndC],<- this,show (n+1) * 4+3=x.row.length+(n * 4+3) from by simp [Nd.row];omega];rw [bI,show x.row.length+(n * 4+3)+1=x.row.length+(n * 4+3+1) from by omega,HD];simp
def Gz (i j:Nat) (l:List Nd) (fl:Bool) (rest:List AV) (Y:AH) (n:Nat) (h:SN Y i l fl rest j) (hn:n < l.length) (hl:l.length<=900000000):
 AR Tzp 159 [.gp i 0,nA n] Y (SNQ Y i l rest j (l,fl) (nA (rtN l n))):=by
 have hl0:l≠[]:=fun e=>by rw [e] at hn;cases hn
 refine YH (by simp) ?_;rw [BD];simp only [nA];(repeat' (refine wQ ?_<;>try simp only [go_sem]));refine Run.BB ?_;obtain ⟨hji,c0,hrep0,hbj0⟩:=h.nd hl0;obtain ⟨d0,hd0⟩:=hrep0.rk
 refine Run.BE ((fun (a0:AV)=>fun (y:Nat×List Nd×AH×(Nat->Nat))=>put 0 a0 (put 1 (.d (.int .i64 y.1)) U)) _) (fun _=>E) (fun y=>y.2.2.1)
  (fun y=>y.1 < l.length/\rtN l y.1=rtN l n/\Rep l y.2.1/\y.2.2.1.blk j=some (ndC y.2.1)/\y.2.2.1.blk i=Y.blk i/\(∀k,k≠i->k≠j->y.2.2.1.blk k=Y.blk k)/\y.2.2.1.gt=Y.gt/\y.2.2.1.tok=Y.tok/\y.2.2.1.bt=Y.bt/\
    RK y.2.2.2 l y.2.1)
  (fun y=>y.2.2.2 y.1) ?_ (n,c0,Y,d0) ⟨hn,rfl,hrep0,hbj0,rfl,fun _ _ _=>rfl,rfl,rfl,rfl,hd0⟩
 rintro ⟨m,c,τ,d⟩ ⟨hm,hrt,hrep,hbj,hbi,hoth,hgt,htok,hbt,hd⟩ ih;simp only at hm hrt hrep hbj hbi hoth hgt htok hbt hd;rw [h.blk,Em hl0] at hbi;obtain ⟨y,hy,hyk⟩:=hrep.at (show l[m]?=some l[m] by simp [hm]);obtain ⟨y1,y2,y3,y4⟩:=Sn hy;have hlt:=ltT hm;have hcase:=hd m _ y (show l[m]?=some l[m] by simp [hm]) hy;by_cases hpm:y.p=m
 . have hb:((y.p:Int) != (m:Int))=false:=by simp [hpm]
   (repeat' (refine wP ?_<;>try simp only [hbi,hbj,y4,hlt,hb,go_sem]))
   have hr:rtN l n=m:=by
    rw [<- hrt,LG (show l[m]?=some l[m] by simp [hm])];rcases hcase with h1|h1
    . exact h1.2
    . exact absurd hpm h1.1
   refine ⟨by rw [hr],j,⟨by rw [hbi,Em hl0],h.Gs,fun _=>⟨hji,c,hrep,hbj⟩⟩,⟨fun k hk hkj _=>hoth k hk (hkj hl0),fun _=>by rw [hbi];simp,fun _=>.inl ⟨hl0,rfl⟩,hgt,fun t ht=>by rw [htok];exact ht,fun k x Z=>by rw [hbt];exact Z⟩⟩
 . have hb:((y.p:Int) != (m:Int))=true:=by simpa using fun e=>hpm (by omega)
   obtain ⟨z0,hz0,hzp⟩:=(hcase.resolve_left (fun h1=>hpm h1.1)).2.2.2;obtain ⟨z,hz,_⟩:=hrep.at hz0;have hpl:y.p < l.length:=(AE.1 hz0).1;obtain ⟨_,_,_,z4⟩:=Sn hz;have hlp:=ltT hpl;have hmc:m < c.length:=by rw [hrep.len];exact hm
   have hrep':=hrep.AKA hy hpm hz;have hy':(c.set m { y with p:=z.p})[m]?=some { y with p:=z.p}:=by simp [hmc]
   obtain ⟨_,_,_,w4⟩:=Sn hy';have hsi:∀cs,(τ.AL j cs).blk i=some (AV.ms j l.length 4 tkN::AV.d (DV.bool fl)::rest):=fun cs=>by rw [AJ,if_neg (A6 hji),hbi]
   have hsj:∀cs,(τ.AL j cs).blk j=some cs:=fun cs=>BT;have hle:(m * 4+3+1<=(ndC c).length)=True:=by rw [VO,hrep.len];simp;omega
   have hwr:=AJJ hy z.p;(repeat' (refine wQ ?_<;>try simp only [hbi,hbj,y4,hlt,hb,hlp,z4,hsi,hsj,w4,hle,hwr,go_sem]));refine ih ⟨z.p,c.set m { y with p:=z.p},τ.AL j (ndC (c.set m { y with p:=z.p})),d⟩ ⟨?_,?_,hrep',BT,by rw [AJ,if_neg (A6 hji),hbi,h.blk,Em hl0],fun k hk hkj=>by rw [AJ,if_neg hkj,hoth k hk hkj],hgt,htok,hbt,hd.AKA hy hpm hz⟩ ?_
   . rcases hd _ z0 z hz0 hz with ⟨h1,_⟩|⟨_,_,_,u,hu,_⟩
     . simp only;rw [h1];exact hpl
     . exact (AE.1 hu).1
   . simp only;rw [<- hrt,LG (show l[m]?=some l[m] by simp [hm])];rcases hd _ z0 z hz0 hz with ⟨h1,h2⟩|⟨_,_,_,u,hu,hup⟩
     . rw [h1,LG hz0,hzp]
     . rw [LG hu,hup,hzp]
   . simp only;have h1:=(hcase.resolve_left (fun h1=>hpm h1.1)).2.2.1;rcases hd _ z0 z hz0 hz with ⟨h2,_⟩|⟨_,_,h3,_⟩
     . rw [h2];exact h1
     . omega
def UNQ (Y:AH) (i:Nat) (l:List Nd) (rest:List AV) (j:Nat) (s:SS) (σ':AH):Prop:=(∃j',SN σ' i s.1 s.2 rest j'/\Fr Y i l j σ' s.1 j')/\rts s.1<=rts l
def ER.root (h:ER l) (ha:a < l.length):∃x,l[rtN l a]?=some x/\x.p=rtN l a:=by
 have hl:l[a]?=some l[a]:=by simp [ha]
 obtain ⟨z,hz,hp⟩:=h.p a _ hl;rw [LG hl];exact ⟨z,hz,hp⟩
def AID:∀ {l:List Nd} {i:Nat} {x:Nd},l[i]?=some x->((ndC l).drop (i * 4)).take 3=[.d (.int .i64 x.k),.d (.int .i64 x.n),.d (.sl (x.ar.map CN))]
 |y::l,0,x,h=>by
  simp only [Aw,AM] at h;subst h;rfl
 |y::l,i+1,x,h=>by
  have:=AID (l:=l) (i:=i) (x:=x) (by simpa using h);rw [show ndC (y::l)=y.row++ndC l from by simp [ndC],show (i+1) * 4=y.row.length+i * 4 from by simp [Nd.row];omega,HD];exact this
def ARO (h:l[i]?=some x):(i * 4+3<=(ndC l).length)=True:=by
 have:=(AE.1 h).1;rw [VO];simp;omega
def SN.uni {Y:AH} {i j a b:Nat} {l c:List Nd} {fl:Bool} {rest:List AV} {x y xc:Nd} (h:SN Y i l fl rest j) (hrep:Rep l c) (hbj:Y.blk j=some (ndC c)) (hji:j≠i) (Z:l[a]?=some x) (hxp:x.p=a) (hy:l[b]?=some y) (hyp:y.p=b) (hab:a≠b) (hxc:c[a]?=some xc):
 SN (Y.AL j (ndC (c.set a { xc with p:=b}))) i (PB a b l) fl rest j/\Fr Y i l j (Y.AL j (ndC (c.set a { xc with p:=b}))) (PB a b l) j:=by
 have hl0:l≠[]:=fun e=>by rw [e] at Z;simp at Z
 have hu0:PB a b l≠[]:=fun e=>hl0 (An (by rw [<- LL a b l,e];rfl));refine ⟨⟨?_,h.Gs.uni hy hyp hab,fun _=>⟨hji,_,hrep.uni Z hxp hy hyp hab hxc,BT⟩⟩,⟨fun k _ hk _=>by rw [AJ,if_neg (hk hl0)],fun hn=>by rw [AJ,if_neg (A6 hji)];exact hn,fun _=>.inl ⟨hl0,rfl⟩,rfl,fun _ h=>h,fun _ _ h=>h⟩⟩;rw [AJ,if_neg (A6 hji),h.blk,Em hl0,Em hu0,LL]
def SN.fail {j:Nat} {rest:List AV} (h:SN Y i l fl rest j):
 SN (Y.AL i (ndV l j::.d (.bool true)::rest)) i l true rest j/\Fr Y i l j (Y.AL i (ndV l j::.d (.bool true)::rest)) l j:=by
 refine ⟨⟨BT,h.Gs,fun hl=>?_⟩,⟨fun k hk _ _=>by rw [AJ,if_neg hk],fun _=>by simp [AJ],fun hl=>.inl ⟨hl,rfl⟩,rfl,fun _ h=>h,fun _ _ h=>h⟩⟩;obtain ⟨hji,c,hr,hb⟩:=h.nd hl;exact ⟨hji,c,hr,by rw [AJ,if_neg hji];exact hb⟩
def CU (i:Nat) (rest:List AV):∀(k:Nat) (l:List Nd) (fl:Bool) (j a b:Nat) (Y:AH),rts l<=k->SN Y i l fl rest j->a < l.length->b < l.length->l.length<=900000000->
 AR Tzp 157 [.gp i 0,nA a,nA b] Y (fun _ σ'=>UNQ Y i l rest j (KR k (l,fl) a b) σ'):=by
 intro k
 induction k with
 |zero=>
  intro l fl j a b Y hk h ha hb hl;obtain ⟨x,Z,hp⟩:=h.Gs.root ha;have:=AV4 Z hp;omega
 |succ k ihk=>
 intro l fl j a b Y hk h ha hb hl;have hl0:l≠[]:=fun e=>by rw [e] at ha;cases ha
 have hbi0:Y.blk i≠none:=by rw [h.blk];simp
 obtain ⟨x,Z,hxp⟩:=h.Gs.root ha;obtain ⟨y,hy,hyp⟩:=h.Gs.root hb;generalize hra:rtN l a=ra at Z hxp;generalize hrb:rtN l b=rb at hy hyp;generalize hQ:UNQ Y i l rest j (KR (k+1) (l,fl) a b)=Q;refine Wf (by simp) ?_;rw [DK];simp only [nA];(repeat' (first|refine ctQ rfl ?_|((first|refine rgQ mxQ ?_|refine cdQ ?_|refine Run.qP DH ?_)<;>try simp only [go_sem])|fail));refine AI.mk rfl (Gz i j l fl rest Y a h ha hl) ?_;rintro _ σ1 ⟨rfl,j1,h1,f1⟩;simp only [nA,hra];simp only [go_sem];refine AI.mk rfl (Gz i j1 l fl rest σ1 b h1 hb hl) ?_;rintro _ σ2 ⟨rfl,j2,h2,f2⟩;simp only [nA,hrb];have f12:=f1.trans f2 hbi0;clear f1 f2 h1;simp only [go_sem];by_cases hab:ra=rb
 . subst hab;(repeat' (first|refine ctQ rfl ?_|((first|refine rgQ mxQ ?_|refine cdQ ?_|refine Run.qP DH ?_)<;>try simp only [beq_self_eq_true,go_sem])|fail));rw [<- hQ,KR,hra,hrb,if_pos rfl];exact ⟨⟨j2,h2,f12⟩,AS _⟩
 . have hbq:((ra:Int)==(rb:Int))=false:=by simpa using fun e=>hab (by omega)
   (repeat' (first|refine ctQ rfl ?_|((first|refine rgQ mxQ ?_|refine cdQ ?_|refine Run.qP DH ?_)<;>try simp only [hbq,go_sem])|fail));obtain ⟨hji,c,hrep,hbj⟩:=h2.nd hl0;have hbi:=h2.blk;rw [Em hl0] at hbi;obtain ⟨xc,hxc,xk,xn,xa⟩:=hrep.at Z;obtain ⟨yc,hyc,yk,yn,ya⟩:=hrep.at hy;have hxt:=AID hxc;have hyt:=AID hyc;have hxl:=ARO hxc;have hyl:=ARO hyc;rw [xk,xn,xa] at hxt;rw [yk,yn,ya] at hyt;have hla:=ltT (AE.1 Z).1;have hlb:=ltT (AE.1 hy).1;refine Run.IX mixed ?_;simp only [hbi,hbj,hxt,hyt,hxl,hyl,hla,hlb,go_sem];have hxw:=AJJ hxc rb;have hyw:=AJJ hyc ra;have hxs:(ra * 4+3+1<=(ndC c).length)=True:=by have:=(AE.1 hxc).1;rw [VO];simp;omega
   have hys:(rb * 4+3+1<=(ndC c).length)=True:=by have:=(AE.1 hyc).1;rw [VO];simp;omega
   obtain ⟨hu1,hu2⟩:=h2.uni hrep hbj hji Z hxp hy hyp hab hxc;obtain ⟨hv1,hv2⟩:=h2.uni hrep hbj hji hy hyp Z hxp (A6 hab) hyc;obtain ⟨hf1,hf2⟩:=h2.fail;rw [Em hl0] at hf1 hf2;have hru:=AKX Z hxp hy hyp hab;have hrv:=AKX hy hyp Z hxp (A6 hab);rw [KR] at hQ;simp only [hra,hrb,if_neg hab,Z,hy] at hQ;by_cases hx0:x.k=0
   . have hb:(x.k==0)=true:=by simpa using hx0
     rw [if_pos hx0] at hQ;(repeat' (first|refine ctQ rfl ?_|((first|refine rgQ mxQ ?_|refine cdQ ?_|refine Run.qP DH ?_)<;>try simp only [hb,hbi,hbj,hla,hxs,hxw,go_sem])|fail));rw [<- hQ];exact ⟨⟨j2,hu1,f12.trans hu2 hbi0⟩,Nat.le_of_lt hru⟩
   have hb:(x.k==0)=false:=by simpa using hx0
   rw [if_neg hx0] at hQ;by_cases hy0:y.k=0
   . have hb':(y.k==0)=true:=by simpa using hy0
     rw [if_pos hy0] at hQ;(repeat' (refine wP ?_<;>try simp only [hb,hb',hbi,hbj,hlb,hys,hyw,go_sem]));rw [<- hQ];exact ⟨⟨j2,hv1,f12.trans hv2 hbi0⟩,Nat.le_of_lt hrv⟩
   have hb':(y.k==0)=false:=by simpa using hy0
   rw [if_neg hy0] at hQ;by_cases hsm:x.k=y.k/\x.n=y.n/\x.ar.length=y.ar.length
   . obtain ⟨e1,e2,e3⟩:=hsm;have b1:(x.k != y.k)=false:=by simpa using e1
     have b2:(x.n != y.n)=false:=by simpa using e2
     have b3:((x.ar.length:Int) != (y.ar.length:Int))=false:=by simp [e3]
     rw [if_pos ⟨e1,e2,e3⟩] at hQ;(repeat' (refine wP ?_<;>try simp only [hb,hb',b1,b2,b3,hbi,hbj,hla,hxs,hxw,AA,go_sem]));refine Run.cell 6 2 rfl rfl (fun hsl=>?_);simp only [AV.Ev,AA] at hsl;refine Run.BB ?_;have hzl:(x.ar.zip y.ar).length=x.ar.length:=by simp [<- e3]
     have hlen:∀p,(((x.ar.zip y.ar).take p).foldl (fun s q=>KR k s q.1 q.2) (PB ra rb l,fl)).1.length=l.length:=fun p=>by
      rw [jN (fun (s:SS) (x:Nat×Nat)=>KR k s x.1 x.2) (fun s x=>lL k s x.1 x.2)];exact LL _ _ _
     refine Run.BE ((fun (a0:AV) (a6:AV) (a7:AV) (a93:AV)=>fun (z:Nat×AH)=>put 0 a0 (put 6 a6 (put 7 a7 (put 93 a93 (put 94 (.d (.int .i64 z.1)) U))))) _ _ _ _) (fun _=>At 6 [.d (.int .i64 x.k),.d (.int .i64 x.n),.d (.sl (x.ar.map CN))] (At 7 [.d (.int .i64 y.k),.d (.int .i64 y.n),.d (.sl (y.ar.map CN))] E)) (fun z=>z.2)
      (fun z=>z.1<=x.ar.length/\UNQ Y i l rest j (((x.ar.zip y.ar).take z.1).foldl (fun s q=>KR k s q.1 q.2) (PB ra rb l,fl)) z.2/\rts (((x.ar.zip y.ar).take z.1).foldl (fun s q=>KR k s q.1 q.2) (PB ra rb l,fl)).1<=k)
      (fun z=>x.ar.length - z.1) ?_ (0,_) ⟨by simp,⟨⟨j2,hu1,f12.trans hu2 hbi0⟩,Nat.le_of_lt hru⟩,by simp only [C0,List.foldl_nil];omega⟩
     rintro ⟨p,τ⟩ ⟨hp,hun,hkk⟩ ih;simp only at hp hun hkk;by_cases hlt:p < x.ar.length
     . obtain ⟨u,hu⟩:=Ai hlt;obtain ⟨v,hv⟩:=Ai (show p < y.ar.length by omega);have hur:=BI (enc:=CN) hu;have hvr:=BI (enc:=CN) hv;have hw1:=wsu p;have hul:=h.Gs.ar _ _ Z u (AD hu);have hvl:=h.Gs.ar _ _ hy v (AD hv);simp only [CN] at hur hvr;obtain ⟨⟨j3,h3,f3⟩,hr3⟩:=hun;(repeat' (first|refine ctQ rfl ?_|((first|refine rgQ mxQ ?_|refine cdQ ?_)<;>try simp only [Ap hlt,hur,hvr,go_sem])|fail));refine AI.mk rfl (ihk _ _ j3 u v τ hkk h3 (by rw [hlen];exact hul) (by rw [hlen];exact hvl) (by rw [hlen];exact hl)) ?_;rintro v' σ3 ⟨⟨j4,h4,f4⟩,hr4⟩;simp only [go_sem];(repeat' (first|refine ctQ rfl ?_|((first|refine rgQ mxQ ?_|refine cdQ ?_)<;>try simp only [hw1,go_sem])|fail));have hz:(x.ar.zip y.ar)[p]?=some (u,v):=by rw [List.getElem?_zip_eq_some];exact ⟨hu,hv⟩
       have htk:=A5 hz;refine ih (p+1,σ3) ⟨hlt,?_,?_⟩ (by simp only;omega)
       . simp only [htk,Ch,Au,List.foldl_nil];exact ⟨⟨j4,h4,f3.trans f4 hbi0⟩,Af hr4 hr3⟩
       . simp only [htk,Ch,Au,List.foldl_nil];exact Af hr4 hkk
     . have hpe:p=x.ar.length:=by omega
       subst hpe;(repeat' (refine wP ?_<;>try simp only [B7 hlt,go_sem]));rw [AP (by omega),hQ] at hun;exact Run.fin DH rfl (fun _ _ h=>h) (AH.le_refl _) hun
   . rw [if_neg hsm] at hQ;have hfin:Q (σ2.AL i (.ms j2 l.length 4 tkN::.d (.bool true)::rest)):=by rw [<- hQ];exact ⟨⟨j2,hf1,f12.trans hf2 hbi0⟩,AS _⟩
     by_cases e1:x.k=y.k
     . have b1:(x.k != y.k)=false:=by simpa using e1
       by_cases e2:x.n=y.n
       . have b2:(x.n != y.n)=false:=by simpa using e2
         have b3:((x.ar.length:Int) != (y.ar.length:Int))=true:=by simpa using fun e=>hsm ⟨e1,e2,by omega⟩
         (repeat' (refine wP ?_<;>try simp only [hb,hb',b1,b2,b3,hbi,AA,go_sem]));exact hfin
       . have b2:(x.n != y.n)=true:=by simpa using e2
         (repeat' (refine wP ?_<;>try simp only [hb,hb',b1,b2,hbi,go_sem]));exact hfin
     . have b1:(x.k != y.k)=true:=by simpa using e1
       (repeat' (refine wP ?_<;>try simp only [hb,hb',b1,hbi,go_sem]));exact hfin
def tkA:AV->Option Nat
 | .own t _ _ _=>some t
 |_=>none
def lQ (v w:AV):Prop:=∀t,tkA v=some t->tkA w≠some t
def lQ.symm {w:AV} (h:lQ v w):lQ w v:=fun t h1 h2=>h t h2 h1
def pV (w:AV):lQ .Ad w:=fun t h=>by cases h
def CC.Gw {s:Nat} {rows:List (List DV)} {w:AV} (h:CC σ0 e s rows w Y) (hle:σ0.le σ') (ht:∀t,tkA w=some t->Y.tok t=true->σ'.tok t=true):CC σ0 e s rows w σ':=by
 obtain ⟨⟨σ1,ha,hl⟩,_,h1,h2,h3,h4,h5,h6,h7⟩:=h;refine ⟨?_,hle,h1,h2,h3,h4,h5,h6,h7⟩;unfold O2 at ha ⊢;split at ha
 . cases ha;exact ⟨σ',rfl,hle⟩
 . rename_i t e' s' rows';split at ha
   . rename_i hc;cases ha;obtain ⟨q1,q2,q3⟩:=hc;refine ⟨σ'.CP t,by rw [if_pos ⟨q1,q2,ht t rfl q3⟩],⟨hle.blk,fun t' h'=>?_,hle.gt,hle.bt⟩⟩
     have hne:t'≠t:=fun e=>by
      have:=hl.tok t' h';simp [AH.CP,e] at this
     simp [AH.CP,hne,hle.tok t' h']
   . cases ha
 . cases ha
def Dh.AY5 {cx:Cx} {K:Fm->Lm->AH->Prop} {d:Option Nat} {size bytes:Nat} {s x:AV} {rows srows:List (List DV)} (ho:CC σ0 e size rows s Y) (h2:x.rows=some srows)
 (h3:∀r∈srows,r.length=size) (h4:rows.length+srows.length<=1000000000) (hb:bytes<=10000)
 (h:∀v σ',CC σ0 e size (rows++srows) v σ'->(∀i,σ'.blk i=Y.blk i)->(∀e2 s2 rows2 w,CC σ0 e2 s2 rows2 w Y->lQ s w->CC σ0 e2 s2 rows2 w σ'/\lQ v w)->K (BL d v F) L σ'):Dh e size bytes s x d K F L Y:=by
 obtain ⟨σ1,ha,hl⟩:=ho.app
 have hblk:∀i,σ1.blk i=Y.blk i:=fun i=>by
  unfold O2 at ha;split at ha
  . cases ha;rfl
  . split at ha
    . cases ha;rfl
    . cases ha
  . cases ha
 have htok:∀t,tkA s≠some t->Y.tok t=true->σ1.tok t=true:=fun t hne ht=>by
  unfold O2 at ha;split at ha
  . cases ha;exact ht
  . rename_i ts e' s' rows';split at ha
    . cases ha;have:t≠ts:=fun e=>hne (by rw [e];rfl);simp [AH.CP,this,ht]
    . cases ha
  . cases ha
 refine Dh.mk ha h2 h3 (by simp only [maxLen];omega) ?_ (fun t ht=>h _ _ (CC.own hl ho.le ht) (fun i=>by rw [PQ];exact hblk i) (fun e2 s2 rows2 w hw hap=>?_))
 . calc (rows.length+srows.length) * bytes<=1000000000 * 10000:=Nat.mul_le_mul h4 hb
    _<=140737488355328:=by decide
 . have hwt:∀t',tkA w=some t'->Y.tok t'=true:=fun t' h'=>by
    obtain ⟨_,hw1,_⟩:=hw.app;cases w<;>simp only [tkA] at h'<;>try cases h'
    simp only [O2] at hw1;split at hw1
    . rename_i hc;exact hc.2.2
    . cases hw1
   have hown:=CC.own (e:=e) (s:=size) (rows:=rows++srows) hl ho.le ht;refine ⟨hw.Gw hown.le (fun t' h1 h2=>?_),fun t' h1 h3=>?_⟩
   . have:=htok t' (fun e=>hap t' e h1) h2;simp [AH.Bq,this]
   . simp only [tkA,AM] at h1;subst h1;rw [hwt _ h3] at ht;cases ht
def nbH (Y:AH):AH:= { Y with blk:=fun _=>none}
def Fr.nb2 {j:Nat} (h:Fr τ i l j τ' l' j') (hn:(nbH Y).le τ):(nbH Y).le τ':=
 ⟨fun _ _ h=>(by cases h),fun t ht=>h.tok t (hn.tok t ht),hn.gt.trans h.gt.symm,fun i x Z=>h.bt i x (hn.bt i x Z)⟩
def Hq (Y:AH):(nbH Y).le Y:=⟨fun _ _ h=>(by cases h),fun _ h=>h,rfl,fun _ _ h=>h⟩
def CC.fr {j s:Nat} {rows:List (List DV)} (ho:CC (nbH σ0) e s rows v τ) (h:Fr τ i l j τ' l' j'):CC (nbH σ0) e s rows v τ':=
 ho.Gw (h.nb2 ho.le) (fun t _ ht=>h.tok t ht)
def Fr.own {σ'':AH} {j:Nat} (h:Fr Y i l j σ' l' j') (hb:∀k,σ''.blk k=σ'.blk k) (hn:(nbH Y).le σ''):Fr Y i l j σ'' l' j':=
 ⟨fun k h1 h2 h3=>by rw [hb];exact h.blk k h1 h2 h3,fun h1=>by rw [hb];exact h.ii h1,h.nw,hn.gt.symm,fun t ht=>hn.tok t ht,fun k x Z=>hn.bt k x Z⟩
def SN.own {j:Nat} {rest:List AV} (h:SN Y i l fl rest j) (hb:∀k,σ'.blk k=Y.blk k):SN σ' i l fl rest j:=
 ⟨by rw [hb];exact h.blk,h.Gs,fun hl=>by obtain ⟨a,c,b,d⟩:=h.nd hl;exact ⟨a,c,b,by rw [hb];exact d⟩⟩
def ANZ (e s:Nat):CC (nbH Y) e s [] .Ad Y:=⟨⟨Y,rfl,Hq Y⟩,Hq Y,rfl,rfl,rfl,rfl,fun _=>rfl,rfl,rfl⟩
def HT {l:List Nat} (h:l[i]?=some a):(l.map CN)[i]?=some [.int .i64 (a:Int)]:=by rw [Am,h];rfl
def CC.row {rows:List (List DV)} (h:CC σ0 e 1 rows v Y):Rj v rows:=⟨h.dv,h.cell,h.BS,h.cells,h.CL⟩
def AJQ (i:Nat) (rest:List AV) (ar:List Nat) (t:Ty):Prop:=∀(l:List Nd) (fl:Bool) (j:Nat) (Y:AH),(∀a∈ar,a < l.length)->l.length+t.size<=900000000->SN Y i l fl rest j->
 AR Tzp 262 [.gp i 0,tyA t,.d (.sl (ar.map CN))] Y (SNQ Y i l rest j ((Eu ar l t).2,fl) (nA (Eu ar l t).1))
def Ty.lG {t:Ty}:∀ {ts:List Ty},t∈ts->t.size<=Ty.AQ ts
 |u::ts,h=>by
  simp only [Ty.AQ];rcases Az.1 h with rfl|h
  . omega
  . have:=Ty.lG h;omega
def Ty.KL (ts us:List Ty):Ty.AQ (ts++us)=Ty.AQ ts+Ty.AQ us:=by
 induction ts with
 |nil=>simp [Ty.AQ]
 |cons t ts ih=>simp only [AX,Ty.AQ,ih];omega
def Ty.Bx:∀ts:List Ty,ts.length<=Ty.AQ ts
 |[]=>AS _
 |t::ts=>by have:=Ty.Bx ts;have:=uF t;simp only [A0,Ty.AQ];omega
def Iq (i:Nat) (rest:List AV) (ar:List Nat) (ts:List Ty) (hT:∀t∈ts,AJQ i rest ar t) (l:List Nd) (fl:Bool) (j:Nat) (Y:AH) (ha:∀a∈ar,a < l.length) (hl:l.length+Ty.AQ ts<=900000000) (h:SN Y i l fl rest j):
 AR Tzp 261 [.gp i 0,.d (.sl (ts.map Ty.enc)),.d (.sl (ar.map CN))] Y (fun v σ'=>CC (nbH Y) 3 1 ((B9 ar l ts).1.map CN) v σ'/\∃j',SN σ' i (B9 ar l ts).2 fl rest j'/\Fr Y i l j σ' (B9 ar l ts).2 j'):=by
 have hbi0:Y.blk i≠none:=by rw [h.blk];simp
 have htl:=Ty.Bx ts;refine Qf (by simp) ?_;rw [DK];(repeat' (refine wQ ?_<;>try simp only [AA,go_sem]));refine Run.BB ?_
 refine Run.BE ((fun (a0:AV) (a2:AV) (a10:AV) (a11:AV)=>fun (z:Nat×AV×AH)=>put 0 a0 (put 2 a2 (put 7 (z.2.1) (put 10 a10 (put 11 a11 (put 12 (.d (.int .i64 z.1)) U)))))) _ _ _ _) (fun _=>E) (fun z=>z.2.2)
  (fun z=>z.1<=ts.length/\CC (nbH Y) 3 1 ((B9 ar l (ts.take z.1)).1.map CN) z.2.1 z.2.2/\∃j',SN z.2.2 i (B9 ar l (ts.take z.1)).2 fl rest j'/\Fr Y i l j z.2.2 (B9 ar l (ts.take z.1)).2 j')
  (fun z=>ts.length - z.1) ?_ (0,.Ad,Y) ⟨by simp,by simpa [B9] using ANZ 3 1,j,by simpa [B9] using h,by simpa [B9] using Fr.refl Y i l j⟩
 rintro ⟨p,v,τ⟩ ⟨hp,ho,j',hs,hf⟩ ih;simp only at hp ho hs hf;by_cases hlt:p < ts.length
 . obtain ⟨t,ht⟩:=Ai hlt;have he:=BI (enc:=Ty.enc) ht;have hw1:=wsu p;have hle:=MM ar l (ts.take p)
   have hsp:Ty.AQ (ts.take p)+t.size<=Ty.AQ ts:=by
    have h2:Ty.AQ (ts.take p++[t])<=Ty.AQ ts:=by
     rw [<- A5 ht]
     conv=>rhs;rw [<- A7 (p+1) ts,Ty.KL]
     omega
    rw [Ty.KL] at h2;simpa [Ty.AQ] using h2
   have hc:=hT t (AD ht) _ fl j' τ (fun a hm=>by have:=ha a hm;have:=hle.le;omega) (by have:=hle.hi;omega) hs;have hsn:=l7 ar t (ts.take p) l;rw [<- A5 ht] at hsn;generalize hlq:(B9 ar l (ts.take p))=q at *;have hql:q.1.length=p:=by rw [<- hlq,MN];simp;omega
   generalize hrq:Eu ar q.2 t=r at *;obtain ⟨k,n,us⟩:=t;simp only [Ty.enc,tyA,AF,AN] at he hc;(repeat' (first|refine ctQ rfl ?_|((first|refine rgQ mxQ ?_|refine cdQ ?_)<;>try simp only [Ap hlt,he,ho.w4,go_sem])|fail));refine AI.mk rfl hc ?_;rintro _ τ1 ⟨rfl,j1,h1,f1⟩;simp only [nA];simp only [go_sem];refine Dh.own (ho.fr f1) rfl (by simp) (by simp [hql];omega) (by omega) (fun v' τ2 ho' hb'=>?_);(repeat' (first|refine ctQ rfl ?_|((first|refine rgQ mxQ ?_|refine cdQ ?_)<;>try simp only [hw1,go_sem])|fail));refine ih ⟨p+1,v',τ2⟩ ⟨hlt,?_,j1,?_,?_⟩ (by simp only;omega)
   . simp only [hsn];rw [Ao];exact ho'
   . simp only [hsn];exact h1.own hb'
   . simp only [hsn];exact (hf.trans f1 hbi0).own hb' ho'.le
 . have hpe:p=ts.length:=by omega
   subst hpe;rw [BQ] at ho hs hf;(repeat' (refine wR ?_<;>try simp only [B7 hlt,ho.w4,go_sem]));exact ⟨ho,j',hs,hf⟩
def HW (i:Nat) (rest:List AV) (ar:List Nat):∀(N:Nat) (t:Ty),t.size<=N->Ve ar.length t=true->AJQ i rest ar t:=by
 intro N
 induction N with
 |zero=>intro t h;have:=uF t;omega
 |succ N ihN=>
 rintro ⟨k,n,us⟩ hsz hv l fl j Y ha hl h;simp only [Ty.size] at hsz hl;refine S9 (by simp) ?_;rw [DK];rw [Ve] at hv;rw [Eu];by_cases hk:k=4
 . subst hk;rw [if_pos rfl] at hv ⊢;simp only [decide_eq_true_eq] at hv;obtain ⟨m,rfl⟩:=G5 hv.1;obtain ⟨u,hu⟩:=Ai (show m < ar.length by omega);have hur:=HT hu;(repeat' (refine wP ?_<;>try simp only [hur,beq_self_eq_true,go_sem]));exact ⟨by simp [nA,hu],j,h,Fr.refl Y i l j⟩
 . have hbi0:Y.blk i≠none:=by rw [h.blk];simp
   have hb:(k==4)=false:=by simpa using hk
   rw [if_neg hk] at hv ⊢;(repeat' (refine wP ?_<;>try simp only [hb,go_sem]));rw [Ty.Bf];have hvu:=UT hv;refine AI.mk rfl (Iq i rest ar us (fun u hu=>ihN u (by have:=Ty.lG hu;omega) (hvu u hu)) l fl j Y ha (by omega) h) ?_;rintro v σ1 ⟨ho,j1,h1,f1⟩;simp only [ho.w4,go_sem];have hle:=MM ar l us;refine AI.mk (by simp [AV.BS]) (JU i j1 _ fl rest σ1 k n _ _ h1 ho.row (ZK hv ha) (by have:=hle.hi;omega)) ?_;rintro _ σ2 ⟨rfl,j2,h2,f2⟩;simp only [nA];simp only [go_sem];(repeat' (refine wP ?_<;>try simp only [go_sem]));exact ⟨rfl,j2,h2,f1.trans f2 hbi0⟩
def Ct (ts:List Nat):List AV:=ts.map fun (t:Nat)=>.d (.int .i64 (t:Int))
def AJZ:∀ts:List Nat,dvs (Ct ts)=some (ts.map fun (t:Nat)=>DV.int .i64 (t:Int))
 |[]=>rfl
 |x::l=>by
  have:=AJZ l;simp only [Ct,AF,dvs,AV.dv,AT,E6] at this ⊢;rw [this];rfl
def xN:∀ts:List Nat,chunk 1 ts.length (ts.map fun (t:Nat)=>DV.int .i64 (t:Int))=ts.map CN
 |[]=>rfl
 |x::l=>by
  have:=xN l;simp only [A0,chunk,AF,CN,C7,C0,Ez,TG] at this ⊢;rw [this]
def R3 {l:List Nat} {x:Nat} (h:l[i]?=some x):(Ct l)[i]?=some (.d (.int .i64 (x:Int))):=by simp [Ct,h]
def FzT (v w:AV) (F F':Fm):Prop:=∀s,F' s=F s\/(F s=v/\F' s=w)
def FzT.refl (v w:AV) (F:Fm):FzT v w F F:=fun _=>.inl rfl
def FzT.skip {w:AV} (h:FzT v w F F') (s:Nat) (x:AV):FzT v w (put s x F) (put s x F'):=fun s'=>by
 by_cases e:s'=s
 . subst e;exact .inl (by simp [put])
 . rcases h s' with h|h
   . exact .inl (by simp [put,e,h])
   . exact .inr (by simp [put,e,h])
def FzT.here {w:AV} (h:FzT v w F F') (s:Nat):FzT v w (put s v F) (put s w F'):=fun s'=>by
 by_cases e:s'=s
 . subst e;exact .inr (by simp [put])
 . rcases h s' with h|h
   . exact .inl (by simp [put,e,h])
   . exact .inr (by simp [put,e,h])
def Run.nrz {cx:Cx} {KK:AV->AH->Prop} {k:List CI} {j:Nat} {ts:List Nat} (hn:ts.length=n) (hb:τ.blk j=some (Ct ts)) (hl:n<=1000000000) (hF:FzT (.ms j n 1 3) (.d (.sl (ts.map CN))) F F') (hr:Run cx KK k F' L (τ.Cs j)):Run cx KK k F L τ:=by
 refine Run.freeze (i:=j) (n:=n) (size:=1) (cs:=Ct ts) (ds:=ts.map fun (t:Nat)=>DV.int .i64 (t:Int)) (σ':=τ.Cs j) (L':=L) (F':=F') hb (AJZ ts) (by simp [Ct,hn]) (Af hl (show (1000000000:Nat)<=maxLen by decide+kernel)) (fun t=>?_) (fun k cs hk=>⟨cs,hk,.inl rfl⟩) (fun r cs' hr=>?_) (fun t h=>h) hr
 . rcases hF t with e|⟨e1,e2⟩
   . exact .inl e
   . right;rw [e1,e2,<- hn,xN];simp [frz]
 . rw [Di] at hr;split at hr
   . cases hr
   . rename_i hne;exact ⟨hne,cs',hr,.inl rfl⟩
def SN.del {j:Nat} {rest:List AV} (h:SN Y i l fl rest j) (hi:k≠i) (hj:l≠[]->k≠j):SN (Y.Cs k) i l fl rest j:=by
 refine ⟨by rw [Di,if_neg (A6 hi)];exact h.blk,h.Gs,fun hl=>?_⟩;obtain ⟨a,c,b,d⟩:=h.nd hl;exact ⟨a,c,b,by rw [Di,if_neg (A6 (hj hl))];exact d⟩
def SN.set {j:Nat} {rest:List AV} (h:SN Y i l fl rest j) (hi:k≠i) (hj:l≠[]->k≠j):SN (Y.AL k cs) i l fl rest j:=by
 refine ⟨by rw [AJ,if_neg (A6 hi)];exact h.blk,h.Gs,fun hl=>?_⟩;obtain ⟨a,c,b,d⟩:=h.nd hl;exact ⟨a,c,b,by rw [AJ,if_neg (A6 (hj hl))];exact d⟩
def Fr.del {j:Nat} (h:Fr Y i l j σ' l' j') (hi:k≠i):Fr (Y.Cs k) i l j (σ'.Cs k) l' j':=by
 refine ⟨fun m h1 h2 h3=>?_,fun hn=>?_,fun hl=>?_,h.gt,h.tok,h.bt⟩
 . rw [Di] at h3 ⊢;rw [Di];split at h3
   . exact absurd rfl h3
   . rename_i hne;rw [if_neg hne,if_neg hne];exact h.blk m h1 h2 h3
 . rw [Di,if_neg (A6 hi)] at hn ⊢;exact h.ii hn
 . rcases h.nw hl with h1|h1
   . exact .inl h1
   . right;rw [Di];split
     . rfl
     . exact h1
def AC8 (Y:AH) (k:Nat) (cs:List AV):(Y.AL k cs).Cs k=Y.Cs k:=by
 unfold AH.AL AH.Cs;simp only [AH.mk.injEq,and_true];funext m;by_cases h:m=k<;>simp [h]
def AH.ext' (h1:Y.blk=τ.blk) (h2:Y.tok=τ.tok) (h3:Y.gt=τ.gt) (h4:Y.bt=τ.bt):Y=τ:=by
 cases Y;cases τ;simp_all
def AP6 (h:Y.blk k=none):Y.Cs k=Y:=by
 refine AH.ext' ?_ rfl rfl rfl;funext m;rw [Di];split
 . rename_i e;rw [e,h]
 . rfl
def Fr.apart {j:Nat} (h:Fr Y i l j σ' l' j') (hk:l≠[]->k≠j) (hb:Y.blk k≠none):l'≠[]->k≠j':=fun hl e=>by
 rcases h.nw hl with ⟨h1,h2⟩|h1
 . exact hk h1 (e.trans h2)
 . rw [<- e] at h1;exact hb h1
def AVF (l:List Nat) (n p a:Nat) (hp:l.length=p) (hn:p < n):(Ct (l++AG (n - p) 0)).take p++[.d (.int .i64 (a:Int))]++(Ct (l++AG (n - p) 0)).drop (p+1)=Ct ((l++[a])++AG (n - (p+1)) 0):=by
 subst hp;rw [show n - l.length=(n - (l.length+1))+1 from by omega,BV];simp [Ct,Ao,List.drop_append]
def gI (n:Nat):(AG n [AV.d (.int .i64 0)]).flatten=Ct (AG n 0):=by
 induction n with
 |zero=>rfl
 |succ n ih=>rw [BV,BW,ih,BV];rfl
def Dx (i j:Nat) (l:List Nd) (fl:Bool) (rest:List AV) (Y:AH) (n:Nat) (h:SN Y i l fl rest j) (hn:n<=1000000) (hl:l.length+n<=900000000):
 AR Tzp 153 [.gp i 0,nA n] Y (SNQ Y i l rest j (Fw l n,fl) (.d (.sl ((A8 l.length n).map CN)))):=by
 have hbi0:Y.blk i≠none:=by rw [h.blk];simp
 refine Qe (by simp) ?_;rw [BD];simp only [nA];(repeat' (first|refine ctQ rfl ?_|((first|refine rgQ mxQ ?_|refine cdQ ?_)<;>try simp only [go_sem])|fail));refine O1.mk n (by omega) (by omega) (fun jo hjo=>?_);rw [gI];have hoi:jo≠i:=fun e=>by rw [e] at hjo;exact hbi0 hjo
 (repeat' (first|refine ctQ rfl ?_|((first|refine rgQ mxQ ?_|refine cdQ ?_)<;>try simp only [go_sem])|fail));refine Run.BB ?_
 refine Run.BE ((fun (a0:AV) (a5:AV) (a10:AV)=>fun (z:Nat×AH)=>put 0 a0 (put 5 a5 (put 10 a10 (put 11 (.d (.int .i64 z.1)) U)))) _ _ _) (fun _=>E) (fun z=>z.2)
  (fun z=>z.1<=n/\z.2.blk jo=some (Ct (A8 l.length z.1++AG (n - z.1) 0))/\∃j',SN z.2 i (Fw l z.1) fl rest j'/\Fr Y i l j (z.2.Cs jo) (Fw l z.1) j'/\(Fw l z.1≠[]->jo≠j'))
  (fun z=>n - z.1) ?_ (0,Y.AL jo (Ct (AG n 0))) ⟨by simp,?_,j,?_,?_,?_⟩
 rotate_left
 . simp only [AJ,if_true];simp
 . refine h.set hoi (fun hl e=>?_);obtain ⟨_,c,_,d⟩:=h.nd hl;rw [<- e,hjo] at d;cases d
 . simp only;rw [AC8,AP6 hjo];exact Fr.refl Y i l j
 . intro hl e;obtain ⟨_,c,_,d⟩:=h.nd hl;rw [<- e,hjo] at d;cases d
 rintro ⟨p,τ⟩ ⟨hp,hb,j',hs,hf,hjj⟩ ih;simp only at hp hb hs hf hjj;by_cases hlt:p < n
 . have hw1:=wsu p;have hfl:=KB l p;(repeat' (first|refine ctQ rfl ?_|((first|refine rgQ mxQ ?_|refine cdQ ?_)<;>try simp only [Ap hlt,go_sem])|fail));refine AI.mk rfl (Fq i j' _ fl rest τ hs (by rw [hfl];omega)) ?_;rintro _ τ1 ⟨rfl,j1,h1,f1⟩;simp only [nA];have hb1:τ1.blk jo=some (Ct (A8 l.length p++AG (n - p) 0)):=by rw [f1.blk jo hoi hjj (by rw [hb];simp),hb]
   have hle:(p+1<=(Ct (A8 l.length p++AG (n - p) 0)).length)=True:=by simp [Ct];omega
   have hwr:=AVF (A8 l.length p) n p (Fw l p).length (by simp) hlt;have hpn:=ltT hlt;simp only [hb1,hpn,hle,hwr,A9,go_sem];(repeat' (first|refine ctQ rfl ?_|((first|refine rgQ mxQ ?_|refine cdQ ?_)<;>try simp only [hw1,go_sem])|fail));have hrg:A8 l.length p++[(Fw l p).length]=A8 l.length (p+1):=by rw [hfl,List.range'_concat];simp
   rw [hrg];have hj1:=f1.apart hjj (by rw [hb];simp);have hfd:=(hf.trans (f1.del hoi) hbi0);refine ih ⟨p+1,τ1.AL jo (Ct (A8 l.length (p+1)++AG (n - (p+1)) 0))⟩ ⟨hlt,by simp only [AJ,if_true],j1,?_,?_,hj1⟩ (by simp only;omega)
   . exact h1.set hoi hj1
   . simp only;rw [AC8];exact hfd
 . have hpe:p=n:=by omega
   subst hpe;rw [Nat.sub_self,List.replicate_zero,Bu] at hb;(repeat' (refine wQ ?_<;>try simp only [B7 hlt,go_sem]));refine Run.nrz (j:=jo) (n:=p) (ts:=A8 l.length p) (by simp) hb (by omega) (FzT.here (FzT.refl _ _ _) 4) ?_;(repeat' (refine wP ?_<;>try simp only [go_sem]));exact ⟨rfl,j',hs.del hoi hjj,hf⟩
structure SX (ext:Nat->Option (List AV)) (Y:AH) (i:Nat) (l:List Nd) (fl:Bool) (rest:List AV) (j js:Nat) (cs:List AV):Prop where
 sn:SN Y i l fl rest j
 row:Y.blk js=some cs
 x:∀k c,ext k=some c->Y.blk k=some c
 xi:ext i=none
 xj:l≠[]->ext j=none
 xs:ext js=none
 si:js≠i
 sj:l≠[]->js≠j
def SX.step {ext:Nat->Option (List AV)} {j js:Nat} {fl':Bool} {rest:List AV} (h:SX ext Y i l fl rest j js cs) (sn:SN σ' i l fl' rest j') (fr:Fr Y i l j σ' l j'):SX ext σ' i l fl' rest j' js cs:=by
 have hk:∀k c,k≠i->(l≠[]->k≠j)->Y.blk k=some c->σ'.blk k=some c/\(l≠[]->k≠j'):=fun k c h1 h2 h3=>
  ⟨by rw [fr.blk k h1 h2 (by rw [h3];simp),h3],fr.apart h2 (by rw [h3];simp)⟩
 have Z:∀k c,ext k=some c->σ'.blk k=some c/\(l≠[]->k≠j'):=fun k c he=>
  hk k c (fun e=>by rw [e,h.xi] at he;cases he) (fun hl e=>by rw [e,h.xj hl] at he;cases he) (h.x k c he)
 obtain ⟨r1,r2⟩:=hk js cs h.si h.sj h.row;refine ⟨sn,r1,fun k c he=>(Z k c he).1,h.xi,fun hl=>?_,h.xs,h.si,r2⟩;cases he:ext j' with
 |none=>rfl
 |some c=>exact absurd rfl ((Z j' c he).2 hl)
def SX.set {ext:Nat->Option (List AV)} {Y:AH} {i j js:Nat} {l:List Nd} {fl:Bool} {rest cs:List AV} (h:SX ext Y i l fl rest j js cs) (cs':List AV):SX ext (Y.AL js cs') i l fl rest j js cs':=
 ⟨h.sn.set h.si h.sj,BT,fun k c he=>by rw [AJ,if_neg (fun e=>by rw [e,h.xs] at he;cases he)];exact h.x k c he,h.xi,h.xj,h.xs,h.si,h.sj⟩
def HF (l:List Nd):Nat->List Nat->Nat->Bool×List Nat
 |0,st,_=>(true,st)
 |k+1,st,n=>
  let r:=rtN l n
  if st[r]?=some 0 then
   let q:=(((l[r]?).map Nd.ar).getD []).foldl (fun (q:Bool×List Nat) a=>if q.1 then HF l k q.2 a else q) (true,st.set r 1)
   (q.1,if q.1 then q.2.set r 2 else q.2)
     else (decide (st[r]?=some 2),st)
def zs (st:List Nat):Nat:=st.countP (·==0)
def AJP {st:List Nat} {v:Nat} (h:st[r]?=some 0) (hv:v≠0):zs (st.set r v)+1=zs st:=by
 induction st generalizing r with
 |nil=>simp at h
 |cons x st ih=>
  cases r with
  |zero=>
   simp only [Aw,AM] at h;subst h;simp [zs,KY,hv]
  |succ r=>
   have:=ih (r:=r) (by simpa using h);simp only [zs,CR,Fj] at this ⊢;omega
def Ab3 {st:List Nat} {v:Nat} (hv:v≠0):zs (st.set r v)<=zs st:=by
 by_cases h:st[r]?=some 0
 . have:=AJP h hv;omega
 . induction st generalizing r with
   |nil=>simp [zs]
   |cons x st ih=>
    cases r with
    |zero=>
     have hb:(v==0)=false:=by simpa using hv
     simp only [zs,KY,Fj,hb,A1,if_false];omega
    |succ r=>
     have:=ih (r:=r) (by simpa using h);simp only [zs,CR,Fj] at this ⊢;omega
def Rk (st st':List Nat):Prop:=st'.length=st.length/\zs st'<=zs st
def Rk.refl (st:List Nat):Rk st st:=⟨rfl,AS _⟩
def Rk.trans {a b c:List Nat} (h:Rk a b) (k:Rk b c):Rk a c:=⟨k.1.trans h.1,Af k.2 h.2⟩
def Rk.set (st:List Nat) (r:Nat) {v:Nat} (hv:v≠0):Rk st (st.set r v):=⟨by simp,Ab3 hv⟩
def e7 (l:List Nd):∀(k:Nat) (st:List Nat) (n:Nat),Rk st (HF l k st n).2
 |0,st,n=>Rk.refl st
 |k+1,st,n=>by
  rw [HF];simp only;split
  . have hf:∀(us:List Nat) (q:Bool×List Nat),Rk q.2 (us.foldl (fun (q:Bool×List Nat) a=>if q.1 then HF l k q.2 a else q) q).2:=by
     intro us
     induction us with
     |nil=>intro q;exact Rk.refl _
     |cons a us ih=>
      intro q;rw [Au];refine Rk.trans ?_ (ih _);split
      . exact e7 l k q.2 a
      . exact Rk.refl _
    have h1:=hf (((l[rtN l n]?).map Nd.ar).getD []) (true,st.set (rtN l n) 1);have h2:=(Rk.set st (rtN l n) (show (1:Nat)≠0 by decide)).trans h1;split
    . exact h2.trans (Rk.set _ _ (by decide))
    . exact h2
  . exact Rk.refl st
end Go.Ab
