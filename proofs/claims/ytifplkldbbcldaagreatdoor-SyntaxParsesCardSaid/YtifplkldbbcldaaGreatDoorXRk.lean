/- The reference's texts: join, bound, types. The reference's texts: bound, types. The reference's texts of types. The reference's levels. Mutable rows of strings. Valid expressions. The reference's texts of expressions. The reference's parser: expressions of the highest level. Conditions: none. -/
import Derived.Test.YtifplkldbbcldaaGreatDoorXRa
set_option linter.unusedSimpArgs false
set_option linter.unusedVariables false
set_option maxRecDepth 4000
set_option maxHeartbeats 8000000
open List renaming take_append_drop→Gt,mem_cons_of_mem→Bh,mem_cons_self→BB,map_cons→AB,map_nil→AE,length_map→AJ,take_of_length_le→A8,length_cons→AG,length_nil→AI,getElem?_cons_zero→F8,length_eq_zero_iff→OE,map_append→Ax
open Option renaming bind_eq_bind→AU,bind_eq_some_iff→AF,bind_some→Cn
open Nat renaming le_refl→A4,pos_of_ne_zero→V1
open Bool renaming false_eq_true→AL
namespace Go.Ab
open Go.Proofs
end Go.Ab
namespace Go.Ab
open Go.Proofs
end Go.Ab
namespace Go.Ab
open Go.Proofs
def WkT (F F':Fm):Prop:=∀s,F' s=F s∨((F s).BL=true∧F' s=(F s).plain)
theorem WkT.refl (F:Fm):WkT F F:=fun _=>.inl rfl
theorem WkT.skip {F F':Fm} (h:WkT F F') (s:Nat) (x:AV):WkT (put s x F) (put s x F'):=fun s'=>by
 by_cases e:s'=s
 · subst e;exact .inl (by simp [put])
 · rcases h s' with h|h
   · exact .inl (by simp [put,e,h])
   · exact .inr (by simp [put,e,h])
end Go.Ab
namespace Go.Ab
open Go.Proofs
end Go.Ab
namespace Go.Ab
open Go.Proofs
theorem AK.ext' {σ τ:AK} (h1:σ.blk=τ.blk) (h2:σ.tok=τ.tok) (h3:σ.gt=τ.gt) (h4:σ.bt=τ.bt):σ=τ:=by
 cases σ;cases τ;simp_all
def AF1 (ts:List Str):List AV:=ts.map fun t=>.d (.str t)
abbrev AF3:Nat:=9
def SR (σ0:AK) (ts:List Str) (v:AV) (σ:AK):Prop:=(v= .AO∧ts=[]∧σ=σ0)∨∃j,σ0.blk j=none∧v= .ms j ts.length 1 AF3∧σ=σ0.AH j (AF1 ts)
theorem SR.nil (σ:AK):SR σ [] .AO σ:= .inl ⟨rfl,rfl,rfl⟩
theorem SR.le {σ0 σ:AK} {ts:List Str} {v:AV} (h:SR σ0 ts v σ):σ0.le σ:=by
 rcases h with ⟨_,_,rfl⟩|⟨j,hj,_,rfl⟩
 · exact AK.le_refl _
 · exact Vv (AK.le_refl _) hj _
theorem SR.cell {σ0 σ:AK} {ts:List Str} {v:AV} (h:SR σ0 ts v σ):v.CB=true∧v.BL=true∧v.cells=[v]∧∀k,v.DF k=false:=by
 rcases h with ⟨rfl,_,_⟩|⟨j,_,rfl,_⟩<;>exact ⟨rfl,rfl,rfl,fun _=>rfl⟩
def FzT (v w:AV) (F F':Fm):Prop:=∀s,F' s=F s∨(F s=v∧F' s=w)
theorem FzT.refl (v w:AV) (F:Fm):FzT v w F F:=fun _=>.inl rfl
theorem FzT.skip {v w:AV} {F F':Fm} (h:FzT v w F F') (s:Nat) (x:AV):FzT v w (put s x F) (put s x F'):=fun s'=>by
 by_cases e:s'=s
 · subst e;exact .inl (by simp [put])
 · rcases h s' with h|h
   · exact .inl (by simp [put,e,h])
   · exact .inr (by simp [put,e,h])
end Go.Ab
namespace Go.Ab
open Go.Proofs
section
variable {α β:Type}
theorem K7 {f:β→α→Option β} {l:List α} {i:Nat} {x:α} {a b:β} (h:(l.take i).foldlM f a=some b) (hx:l[i]?=some x):(l.take (i+1)).foldlM f a=f b x:=by
 rw [My hx,List.foldlM_append,h]
 simp [List.foldlM]
theorem K6 {f:β→α→Option β} {l:List α} {i:Nat} {x:α} {a b:β} (h:(l.take i).foldlM f a=some b) (hx:l[i]?=some x) (hn:f b x=none):l.foldlM f a=none:=by
 conv=>lhs;rw [← Gt i l]
 rw [List.foldlM_append,h,Ej hx]
 simp [List.foldlM,hn]
theorem Za {f:Nat→α→Option Nat}:∀(l:List α) (a b:Nat),(∀x∈l,∀a b,f a x=some b→b≤a)→l.foldlM f a=some b→b≤a
 |[],a,b,_,h=>by simp [List.foldlM] at h;omega
 |x::l,a,b,hf,h=>by
  simp only [List.foldlM,AU,AF] at h
  obtain ⟨c,hc,h⟩:=h
  have:=Za l c b (fun y hy=>hf y (Bh _ hy)) h
  have:=hf x (BB ..) a c hc
  omega
end
theorem TY:∀(d q:Nat) (e:Ex) (r:Nat),vEx d q e=some r→r≤q
 |0,q,e,r,h=>by cases h
 |d+1,0,.mk ..,r,h=>by cases h
 |d+1,q+1,.mk o n u ns ks al,r,h=>by
  simp only [vEx] at h
  split at h
  · simp only [AF] at h
    obtain ⟨c,hc,h⟩:=h
    have h1:=Za ks q c (fun x _ a b hab=>TY d a x b hab) hc
    have h2:=Za al c r (fun x _ a b hab=>by cases x;exact TY d a _ b hab) h
    omega
  · cases h
def VXQ (enc:Nat→Int) (j d q:Nat) (e:Ex) (σ:AK) (v:AV) (σ':AK):Prop:=
 ∃b z,v= .d (.bool b)∧σ'=σ.AH j [.d (.int .i64 z)]∧b=(vEx d q e).isSome∧∀r,vEx d q e=some r→z=enc r
theorem VXQ.yes {enc:Nat→Int} {j d q:Nat} {e:Ex} {σ:AK} {P:Program} {f:FuncId} {args:List AV} {r:Nat} (h:AP P f args σ (VXQ enc j d q e σ)) (hr:vEx d q e=some r):AP P f args σ (fun v σ'=>v= .d (.bool true)∧σ'=σ.AH j [.d (.int .i64 (enc r))]):=
 h.mono (by
  rintro v σ' ⟨b,z,rfl,rfl,rfl,h⟩
  rw [h r hr,hr];exact ⟨rfl,rfl⟩)
theorem VXQ.no {enc:Nat→Int} {j d q:Nat} {e:Ex} {σ:AK} {P:Program} {f:FuncId} {args:List AV} (h:AP P f args σ (VXQ enc j d q e σ)) (hr:vEx d q e=none):AP P f args σ (fun v σ'=>v= .d (.bool false)∧∃z,σ'=σ.AH j [.d (.int .i64 z)]):=
 h.mono (by
  rintro v σ' ⟨b,z,rfl,rfl,rfl,h⟩
  rw [hr];exact ⟨rfl,z,rfl⟩)
def fK (d:Nat):Nat→Ex→Option Nat:=fun q e=>vEx d q e
def fA (d:Nat):Nat→Al→Option Nat:=fun q a=>match a with| .mk _ _ b=>vEx d q b
theorem TZ (d q:Nat) (o:Int) (n:Str) (u:Int) (ns:List Str) (ks:List Ex) (al:List Al):vEx (d+1) (q+1) (.mk o n u ns ks al)=if Iw o n u ns ks.length al then (ks.foldlM (fK d) q).bind fun q=>al.foldlM (fA d) q else none:=rfl
def Mf (r:Nat):Int:=((600 - r:Nat):Int)
set_option maxHeartbeats 4000000 in
theorem YP (j:Nat):∀(d q:Nat),d≤40→q≤600→∀(e:Ex) (σ:AK),σ.blk j=some [.d (.int .i64 (Mf q))]→
 AP Tryz.prog 53 [.gp j 0,exA e,.d (.int .i64 ((41 - d:Nat):Int))] σ (VXQ Mf j d q e σ):=by
 intro d
 induction d with
 |zero=>
  intro q _ hq e σ hj
  obtain ⟨o,n,u,ns,ks,al⟩:=e
  refine KY (by simp) ?_
  rw [Hw,exA,Ex.AS]
  have hw:IntKind.i64.wrap (Mf q+1)=((601 - q:Nat):Int):=by rw [Mf,BF (by omega) (by omega)];omega
  have h4:decide ((40:Int) < ((41 - 0:Nat):Int))=true:=by decide
  (repeat' (first|refine ctQ rfl ?_|((first|refine rgQ mxQ ?_|refine cdQ ?_|refine Run.FT CP (AK.le_refl _) ?_|(refine GS rfl (fun h=>?_) (fun h=>?_)<;>try (cases h;done)))<;>try simp -implicitDefEqProofs only [hj,hw,h4,go_sem])|fail))
  all_goals exact ⟨false,_,rfl,rfl,rfl,fun r h=>by cases h⟩
 |succ d ihd=>
  intro q hd hq e σ hj
  obtain ⟨o,n,u,ns,ks,al⟩:=e
  refine KY (by simp) ?_
  rw [Hw,exA,Ex.AS]
  cases q with
  |zero=>
   have hw:IntKind.i64.wrap (Mf 0+1)=601:=by decide
   have h6:decide ((600:Int) < 601)=true:=by decide
   (repeat' (first|refine ctQ rfl ?_|((first|refine rgQ mxQ ?_|refine cdQ ?_|refine Run.FT CP (AK.le_refl _) ?_)<;>try simp -implicitDefEqProofs only [hj,hw,h6,go_sem])|fail))
   exact ⟨false,_,rfl,rfl,rfl,fun r h=>by cases h⟩
  |succ q=>
  have hw:IntKind.i64.wrap (Mf (q+1)+1)=Mf q:=by
   have e:Mf (q+1)+1=Mf q:=by simp only [Mf];omega
   rw [e];exact BF (by simp only [Mf];omega) (by simp only [Mf];omega)
  have h6:decide ((600:Int) < Mf q)=false:=decide_eq_false (Int.not_lt.2 (by unfold Mf;omega))
  have h4:decide ((40:Int) < ((41 - (d+1):Nat):Int))=false:=by simp only [decide_eq_false_iff_not];omega
  have hnode:=hJ o n u ns ks al
  simp only [exA,Ex.AS,AB,AE] at hnode
  have hw2:IntKind.i64.wrap (((41 - (d+1):Nat):Int)+1)=((41 - d:Nat):Int):=by
   have e:((41 - (d+1):Nat):Int)+1=((41 - d:Nat):Int):=by omega
   rw [e];exact BF (by omega) (by omega)
  cases hn:Iw o n u ns ks.length al with
  |false=>
   rw [hn] at hnode
   (repeat' (first|refine ctQ rfl ?_|((first|refine rgQ mxQ ?_|refine cdQ ?_|refine Run.FT CP (AK.le_refl _) ?_|refine AD.det (hnode _) ?_)<;>try simp -implicitDefEqProofs only [hj,hw,h6,h4,go_sem])|fail))
   exact ⟨false,_,rfl,rfl,by rw [TZ,if_neg (by simp [hn])];rfl,fun r h=>by rw [TZ,if_neg (by simp [hn])] at h;cases h⟩
  |true=>
  rw [hn] at hnode
  have hres:vEx (d+1) (q+1) (.mk o n u ns ks al)=(ks.foldlM (fK d) q).bind fun q=>al.foldlM (fA d) q:=by rw [TZ,if_pos hn]
  generalize hV:VXQ Mf j (d+1) (q+1) (.mk o n u ns ks al) σ=V
  have hno:∀z,vEx (d+1) (q+1) (.mk o n u ns ks al)=none→V (.d (.bool false)) (σ.AH j [.d (.int .i64 z)]):=fun z h=>by
   rw [← hV];exact ⟨false,z,rfl,rfl,by rw [h];rfl,fun r hr=>by rw [h] at hr;cases hr⟩
  have hyes:∀r,vEx (d+1) (q+1) (.mk o n u ns ks al)=some r→V (.d (.bool true)) (σ.AH j [.d (.int .i64 (Mf r))]):=fun z h=>by
   rw [← hV];exact ⟨true,_,rfl,rfl,by rw [h];rfl,fun r hr=>by rw [h] at hr;cases hr;rfl⟩
  clear hV
  (repeat' (first|refine ctQ rfl ?_|((first|refine rgQ mxQ ?_|refine cdQ ?_|refine AD.det (hnode _) ?_)<;>try simp -implicitDefEqProofs only [hj,hw,h6,h4,AJ,go_sem])|fail))
  refine Run.cell 4 4 rfl rfl (fun hb4=>?_)
  refine Run.cell 4 5 rfl rfl (fun hb5=>?_)
  simp only [AV.Fc,AJ] at hb4 hb5
  refine Run.BU ?_
  refine Run.BZ ((fun (a0:AV) (a2:AV) (a4:AV) (a33:AV) (a34:AV)=>fun (y:Nat×Nat)=>put 0 a0 (put 2 a2 (put 4 a4 (put 33 a33 (put 34 a34 (put 35 (.d (.int .i64 y.1)) U)))))) _ _ _ _ _) (fun _=>Aq 4 [.d (.int .i64 o),.d (.str n),.d (.int .i64 u),.d (.sl (ns.map Br)),.d (.sl (ks.map Ex.enc)),.d (.sl (al.map Al.enc))] E) (fun y=>σ.AH j [.d (.int .i64 (Mf y.2))])
   (fun y=>y.1≤ks.length∧y.2≤q∧(ks.take y.1).foldlM (fK d) q=some y.2) (fun y=>ks.length - y.1) ?_ (0,q) ⟨by simp,A4 _,rfl⟩
  rintro ⟨i,p⟩ ⟨hi,hp,hok⟩ ih
  simp only at hi hp hok
  by_cases hlt:i < ks.length
  · obtain ⟨x,hx⟩:=CF hlt
    have he:=Bq (enc:=Ex.enc) hx
    have hw1:IntKind.i64.wrap ((i:Int)+1)=((i+1:Nat):Int):=by rw [BF (by omega) (by omega)];omega
    have hc:=ihd p (by omega) (by omega) x (σ.AH j [.d (.int .i64 (Mf p))]) (by simp only [AZ,if_true])
    cases hv:vEx d p x with
    |some r=>
     have hr:=TY _ _ _ _ hv
     have hc:=VXQ.yes hc hv
     have hs:=K7 hok hx
     obtain ⟨xo,xn,xu,xs,xk,xa⟩:=x
     simp only [Ex.AS,exA,AB,AE] at he hc
     (repeat' (first|refine ctQ rfl ?_|((first|refine rgQ mxQ ?_|refine cdQ ?_|(refine AD.mk rfl hc ?_;rintro _ _ ⟨rfl,rfl⟩))<;>try simp -implicitDefEqProofs only [B1 hlt,he,hw1,hw2,go_sem])|fail))
     exact ih (i+1,r) ⟨by simp only;omega,by simp only;omega,by simp only;rw [hs];exact hv⟩ (by simp only;omega)
    |none=>
     have hc:=VXQ.no hc hv
     have hs:=K6 hok hx hv
     obtain ⟨xo,xn,xu,xs,xk,xa⟩:=x
     simp only [Ex.AS,exA,AB,AE] at he hc
     (repeat' (first|refine ctQ rfl ?_|((first|refine rgQ mxQ ?_|refine cdQ ?_|refine Run.FT CP (AK.le_refl _) ?_|(refine AD.mk rfl hc ?_;rintro _ _ ⟨rfl,z,rfl⟩))<;>try simp -implicitDefEqProofs only [B1 hlt,he,hw2,go_sem])|fail))
     exact hno z (by rw [hres,hs];rfl)
  · rw [A8 (by omega)] at hok
    rw [hok,Cn] at hres
    clear ih
    (repeat' (first|refine ctQ rfl ?_|((first|refine rgQ mxQ ?_|refine cdQ ?_)<;>try simp -implicitDefEqProofs only [Ff hlt,AJ,go_sem])|fail))
    refine Run.BU ?_
    refine Run.BZ ((fun (a0:AV) (a2:AV) (a47:AV) (a48:AV)=>fun (y:Nat×Nat)=>put 0 a0 (put 2 a2 (put 47 a47 (put 48 a48 (put 49 (.d (.int .i64 y.1)) U))))) _ _ _ _) (fun _=>E) (fun y=>σ.AH j [.d (.int .i64 (Mf y.2))])
     (fun y=>y.1≤al.length∧y.2≤q∧(al.take y.1).foldlM (fA d) p=some y.2) (fun y=>al.length - y.1) ?_ (0,p) ⟨by simp,hp,rfl⟩
    rintro ⟨i,p⟩ ⟨hi,hp,hok⟩ ih
    simp only at hi hp hok
    by_cases hlt:i < al.length
    · obtain ⟨x,hx⟩:=CF hlt
      have he:=Bq (enc:=Al.enc) hx
      have hw1:IntKind.i64.wrap ((i:Int)+1)=((i+1:Nat):Int):=by rw [BF (by omega) (by omega)];omega
      obtain ⟨xc,xv,x⟩:=x
      have hc:=ihd p (by omega) (by omega) x (σ.AH j [.d (.int .i64 (Mf p))]) (by simp only [AZ,if_true])
      cases hv:vEx d p x with
      |some r=>
       have hr:=TY _ _ _ _ hv
       have hc:=VXQ.yes hc hv
       have hs:=K7 hok hx
       obtain ⟨xo,xn,xu,xs,xk,xa⟩:=x
       simp only [Al.AS,Ex.AS,exA,AB,AE] at he hc
       (repeat' (first|refine ctQ rfl ?_|((first|refine rgQ mxQ ?_|refine cdQ ?_|(refine AD.mk rfl hc ?_;rintro _ _ ⟨rfl,rfl⟩))<;>try simp -implicitDefEqProofs only [B1 hlt,he,hw1,hw2,go_sem])|fail))
       exact ih (i+1,r) ⟨by simp only;omega,by simp only;omega,by simp only;rw [hs];exact hv⟩ (by simp only;omega)
      |none=>
       have hc:=VXQ.no hc hv
       have hs:=K6 hok hx hv
       obtain ⟨xo,xn,xu,xs,xk,xa⟩:=x
       simp only [Al.AS,Ex.AS,exA,AB,AE] at he hc
       (repeat' (first|refine ctQ rfl ?_|((first|refine rgQ mxQ ?_|refine cdQ ?_|refine Run.FT CP (AK.le_refl _) ?_|(refine AD.mk rfl hc ?_;rintro _ _ ⟨rfl,z,rfl⟩))<;>try simp -implicitDefEqProofs only [B1 hlt,he,hw2,go_sem])|fail))
       exact hno z (by rw [hres,hs])
    · rw [A8 (by omega)] at hok
      (repeat' (first|refine ctQ rfl ?_|((first|refine rgQ mxQ ?_|refine cdQ ?_|refine Run.FT CP (AK.le_refl _) ?_)<;>try simp -implicitDefEqProofs only [Ff hlt,go_sem])|fail))
      exact hyes p (by rw [hres,hok])
theorem Mo (u:Int) (σ:AK):AP Tryz.prog 111 [.d (.int .i64 u)] σ (fun v σ'=>v= .d (.int .i64 (Le u))∧σ'=σ):=by
 refine Zj (by simp) ?_
 rw [Ar]
 by_cases h:1≤u∧u≤7
 · obtain ⟨h1,h2⟩:=h
   obtain rfl|rfl|rfl|rfl|rfl|rfl|rfl:u=1∨u=2∨u=3∨u=4∨u=5∨u=6∨u=7:=by omega
   all_goals (repeat' (first|refine ctQ rfl ?_|((first|refine rgQ mxQ ?_|refine cdQ ?_|refine Run.A2 J1 (AK.le_refl _) ?_)<;>try simp -implicitDefEqProofs only [Int.reduceLT,Int.reduceLE,Int.reduceToNat,go_sem])|(refine ⟨fun h=>?_,fun h=>?_⟩<;>first|(cases h;done)|try simp only [h])|fail))
   all_goals rfl
 · have hp:Le u=0:=by
    have:=eP u;omega
   rw [hp]
   by_cases h1:u < 1
   · (repeat' (first|refine ctQ rfl ?_|((first|refine rgQ mxQ ?_|refine cdQ ?_|refine Run.A2 J1 (AK.le_refl _) ?_)<;>try simp -implicitDefEqProofs only [decide_eq_true h1,go_sem])|fail))
     rfl
   · have h8:decide (((8:Nat):Int)≤u)=true:=by simp;omega
     (repeat' (first|refine ctQ rfl ?_|((first|refine rgQ mxQ ?_|refine cdQ ?_|refine Run.A2 J1 (AK.le_refl _) ?_)<;>try simp -implicitDefEqProofs only [decide_eq_false h1,h8,go_sem])|fail))
     rfl
end Go.Ab
namespace Go.Ab
open Go.Proofs
theorem aJ (u:Int) (σ:AK) (h:1≤u∧u≤7):AP Tryz.prog 100 [.d (.int .i64 u)] σ (fun v σ'=>v= .d (.str (prT u))∧σ'=σ):=by
 refine cX (by simp) ?_
 rw [Ar]
 have hu:u=1∨u=2∨u=3∨u=4∨u=5∨u=6∨u=7:=by omega
 rcases hu with rfl|rfl|rfl|rfl|rfl|rfl|rfl
 all_goals (repeat' (first|refine ctQ rfl ?_|((first|refine rgQ mxQ ?_|refine cdQ ?_|refine Run.A2 U9 (AK.le_refl _) ?_)<;>try simp -implicitDefEqProofs only [Int.reduceLT,Int.reduceLE,Int.reduceToNat,go_sem])|(refine ⟨fun h=>?_,fun h=>?_⟩<;>first|(cases h;done)|try simp only [h])|fail))
 all_goals rfl
end Go.Ab
namespace Go.Ab
open Go.Proofs
theorem uO (a:Nat):decide ((0:Int) < (a:Int))=decide (0 < a):=decide_eq_decide.2 (by omega)
def XJ (E:RM Ex):Nat→List Ex→RM (List Ex)
 |0,l=>.pure l
 |n+1,l=>(if l=[] then RM.pure () else RM.A9 [44]).bind fun _=>E.bind fun x=>XJ E n (l++[x])
def wW (E:RM Ex) (n:Nat):RM (List Ex):=(RM.A9 [40]).bind fun _=>(XJ E n []).bind fun l=>(RM.A9 [41]).bind fun _=>.pure l
def XN (E:RM Ex):Nat→Nat→RM Ex
 |0,_=>.fail (exN 0 0 [])
 |n+1,k=>.acc (prT (k:Int)) ((wW E (Le (k:Int))).bind fun l=>.pure (exN 14 (k:Int) l)) (XN E n (k+1))
theorem nK (E:RM Ex) (s:RSt):(RM.acc [110,101,119] ((TG E).bind fun l=>.pure (exN 14 1 l)) <|
 RM.acc [103,101,116] ((TG E).bind fun l=>.pure (exN 14 2 l)) <|
 RM.acc [115,101,116] ((gO E).bind fun l=>.pure (exN 14 3 l)) <|
 RM.acc [108,101,110] ((Ob E).bind fun l=>.pure (exN 14 4 l)) <|
 RM.acc [114,101,102] ((Ob E).bind fun l=>.pure (exN 14 5 l)) <|
 RM.acc [114,101,97,100] ((Ob E).bind fun l=>.pure (exN 14 6 l)) <|
 RM.acc [119,114,105,116,101] ((TG E).bind fun l=>.pure (exN 14 7 l)) <|
 RM.fail (exN 0 0 [])).run s=(XN E 7 1).run s:=rfl
theorem Jh {L:List Tok} {s0:RSt} {i:Nat} {σ:AK} {b:Bool} (hb:s0.b=b) (b0:σ.blk i=some (rsA L s0)):σ.blk i=some [.d (.sl (L.map Tok.enc)),.d (.int .i64 ((L.length - s0.r.length:Nat):Int)),.d (.bool b)]:=by
 rw [b0,← hb];rfl
set_option maxHeartbeats 8000000 in
theorem w6 (i:Nat) {L:List Tok} (hN:NOk L) (n:Nat) {E:RM Ex} (hE:RPC 35 [.gp i 0] i L n E exA):RPC 189 [.gp i 0] i L (n+1) (YD E) exA:=by
 intro σ s0 g0 h0 l0 b0
 refine Wr (by simp) ?_
 rw [Ar]
 have hat:=h0.at
 rw [YD]
 simp only [WL,XP,H9]
 cases hbad:s0.b with
 |true=>
  have b0':=Jh hbad b0
  have hσ:σ.AH i (rsA L s0)=σ:=Lo b0
  simp only [if_true,hσ,exA,exN,Ex.AS,AB,AE]
  (repeat' (first|refine ctQ rfl ?_|((first|refine rgQ mxQ ?_|refine cdQ ?_|refine Run.A2 BJ (AK.le_refl _) ?_)<;>try simp -implicitDefEqProofs only [b0',go_sem])|fail))
 |false=>
 have b0':=Jh hbad b0
 simp only [if_false,AL]
 cases hk3:s0.hd.kind==3 with
 |true=>
  simp only [if_true,BD,BK,exA,exN,Ex.AS,AB,AE]
  (have c0:=(Yr i hN (n+1)) σ s0 g0 h0 (by omega) b0;have h1:=h0.run (Ju);have l1:=RM.le (Ju) h0.wf;generalize (Ju).run s0=y at c0 h1 l1 ⊢;obtain ⟨x0,s1⟩:=y;simp only at c0 h1 l1 ⊢;have b1:(σ.AH i (rsA L s1)).blk i=some (rsA L s1):=AX)
  (repeat' (first|refine ctQ rfl ?_|((first|refine rgQ mxQ ?_|refine cdQ ?_|refine Run.A2 BJ (AK.le_refl _) ?_|(refine AD.upd c0 ?_))<;>try simp -implicitDefEqProofs only [b0',hat,hk3,go_sem])|fail))
 |false=>
 simp only [if_false,AL]
 cases t1:s0.is [45] with
 |true=>
  simp only [if_true,BD,BK,exA,exN,Ex.AS,AB,AE]
  (have c0:=CU h0 [45] σ b0 t1;have h1:=h0.adv (t:=[45]) (by decide) t1;have l1:=Am h0.wf;generalize s0.adv=s1 at c0 h1 l1 ⊢;have b1:(σ.AH i (rsA L s1)).blk i=some (rsA L s1):=by rw [AZ,if_pos rfl])
  have hk:=pQ hN h1
  (have c1:=(Yr i hN n) (σ.AH i (rsA L s1)) s1 g0 h1 (by omega) b1;rw [AN] at c1;have h2:=h1.run (Ju);have l2:=RM.le (Ju) h1.wf;generalize (Ju).run s1=y at c1 h2 l2 hk ⊢;obtain ⟨x1,s2⟩:=y;simp only at c1 h2 l2 hk ⊢;have b2:(σ.AH i (rsA L s2)).blk i=some (rsA L s2):=AX)
  have hng:=neg_num hk
  (repeat' (first|refine ctQ rfl ?_|((first|refine rgQ mxQ ?_|refine cdQ ?_|refine Run.A2 BJ (AK.le_refl _) ?_|(refine AD.upd c0 ?_)|(refine AD.upd c1 ?_))<;>try simp -implicitDefEqProofs only [b0',hat,hk3,hng,go_sem])|fail))
 |false=>
 have f1:=CN h0 _ σ b0 t1
 cases t2:s0.is [116,114,117,101] with
 |true=>
  simp only [if_true,if_false,AL,BK,exA,exN,Ex.AS,AB,AE]
  (have c0:=CU h0 [116,114,117,101] σ b0 t2;have h1:=h0.adv (t:=[116,114,117,101]) (by decide) t2;have l1:=Am h0.wf;generalize s0.adv=s1 at c0 h1 l1 ⊢;have b1:(σ.AH i (rsA L s1)).blk i=some (rsA L s1):=by rw [AZ,if_pos rfl])
  (repeat' (first|refine ctQ rfl ?_|((first|refine rgQ mxQ ?_|refine cdQ ?_|refine Run.A2 BJ (AK.le_refl _) ?_|(refine AD.upd c0 ?_)|refine AD.det (f1) ?_)<;>try simp -implicitDefEqProofs only [b0',hat,hk3,go_sem])|fail))
 |false=>
 have f2:=CN h0 _ σ b0 t2
 cases t3:s0.is [102,97,108,115,101] with
 |true=>
  simp only [if_true,if_false,AL,BK,exA,exN,Ex.AS,AB,AE]
  (have c0:=CU h0 [102,97,108,115,101] σ b0 t3;have h1:=h0.adv (t:=[102,97,108,115,101]) (by decide) t3;have l1:=Am h0.wf;generalize s0.adv=s1 at c0 h1 l1 ⊢;have b1:(σ.AH i (rsA L s1)).blk i=some (rsA L s1):=by rw [AZ,if_pos rfl])
  (repeat' (first|refine ctQ rfl ?_|((first|refine rgQ mxQ ?_|refine cdQ ?_|refine Run.A2 BJ (AK.le_refl _) ?_|(refine AD.upd c0 ?_)|refine AD.det (f1) ?_|refine AD.det (f2) ?_)<;>try simp -implicitDefEqProofs only [b0',hat,hk3,go_sem])|fail))
 |false=>
 have f3:=CN h0 _ σ b0 t3
 cases t4:s0.is [40] with
 |true=>
  simp only [if_true,if_false,AL,AAK,H9]
  (have c0:=CU h0 [40] σ b0 t4;have h1:=h0.adv (t:=[40]) (by decide) t4;have l1:=Am h0.wf;generalize s0.adv=s1 at c0 h1 l1 ⊢;have b1:(σ.AH i (rsA L s1)).blk i=some (rsA L s1):=by rw [AZ,if_pos rfl])
  cases hp:s1.is [41] with
  |true=>
   simp only [if_true,BK,exA,exN,Ex.AS,AB,AE]
   (have c1:=CU h1 [41] (σ.AH i (rsA L s1)) b1 hp;rw [AN] at c1;have h2:=h1.adv (t:=[41]) (by decide) hp;have l2:=Am h1.wf;generalize s1.adv=s2 at c1 h2 l2 ⊢;have b2:(σ.AH i (rsA L s2)).blk i=some (rsA L s2):=by rw [AZ,if_pos rfl])
   (repeat' (first|refine ctQ rfl ?_|((first|refine rgQ mxQ ?_|refine cdQ ?_|refine Run.A2 BJ (AK.le_refl _) ?_|(refine AD.upd c0 ?_)|(refine AD.upd c1 ?_)|refine AD.det (f1) ?_|refine AD.det (f2) ?_|refine AD.det (f3) ?_)<;>try simp -implicitDefEqProofs only [b0',hat,hk3,go_sem])|fail))
  |false=>
   simp only [if_false,AL,jX,GR]
   have fp:=CN h1 _ _ b1 hp
   (have c1:=(XM i L n hE).pc (σ.AH i (rsA L s1)) s1 g0 h1 (by omega) b1;rw [AN] at c1;have h2:=h1.run (BX E [44]);have l2:=RM.le (BX E [44]) h1.wf;generalize (BX E [44]).run s1=y at c1 h2 l2 ⊢;obtain ⟨x1,s2⟩:=y;simp only at c1 h2 l2 ⊢;have b2:(σ.AH i (rsA L s2)).blk i=some (rsA L s2):=AX)
   (have c2:=(B7 i L n [41]) (σ.AH i (rsA L s2)) s2 g0 h2 (by omega) b2;rw [AN] at c2;have h3:=h2.run (RM.A9 [41]);have l3:=RM.le (RM.A9 [41]) h2.wf;generalize (RM.A9 [41]).run s2=y at c2 h3 l3 ⊢;obtain ⟨x2,s3⟩:=y;simp only at c2 h3 l3 ⊢;have b3:(σ.AH i (rsA L s3)).blk i=some (rsA L s3):=AX)
   by_cases hl1:∃x,x1=[x]
   · obtain ⟨x,rfl⟩:=hl1
     simp only [Xb]
     obtain ⟨o1,n1,u1,ns1,ks1,al1⟩:=x
     simp only [exA,Ex.AS,AB,AE] at c1 ⊢
     (repeat' (first|refine ctQ rfl ?_|((first|refine rgQ mxQ ?_|refine cdQ ?_|refine Run.A2 BJ (AK.le_refl _) ?_|(refine AD.upd c0 ?_)|(refine AD.upd c1 ?_)|(refine AD.upd c2 ?_)|refine AD.det (f1) ?_|refine AD.det (f2) ?_|refine AD.det (f3) ?_|refine AD.det (fp) ?_)<;>try simp -implicitDefEqProofs only [b0',hat,hk3,AG,AI,Int.reduceLE,Int.reduceToNat,if_true,F8,go_sem])|(refine ⟨fun h=>?_,fun h=>?_⟩<;>first|(cases h;done)|try simp only [h])|fail))
   · have htu:Xb x1=exN 5 0 x1:=by
      match x1,hl1 with
      |[],_=>rfl
      |[x],h=>exact absurd ⟨x,rfl⟩ h
      |_::_::_,_=>rfl
     have hln:(((x1.length:Nat):Int)==1)=false:=Ch (fun e=>hl1 (by
      have:x1.length=1:=by omega
      obtain ⟨a,rfl⟩:=AC4 this
      exact ⟨a,rfl⟩))
     rw [htu]
     simp only [exA,exN,Ex.AS,AB,AE]
     (repeat' (first|refine ctQ rfl ?_|((first|refine rgQ mxQ ?_|refine cdQ ?_|refine Run.A2 BJ (AK.le_refl _) ?_|(refine AD.upd c0 ?_)|(refine AD.upd c1 ?_)|(refine AD.upd c2 ?_)|refine AD.det (f1) ?_|refine AD.det (f2) ?_|refine AD.det (f3) ?_|refine AD.det (fp) ?_)<;>try simp -implicitDefEqProofs only [b0',hat,hk3,AJ,hln,go_sem])|fail))
 |false=>
 have f4:=CN h0 _ σ b0 t4
 cases hk1:s0.hd.kind==1 with
 |true=>
  simp only [if_true,if_false,AL,BD,BK,exA,exN,Ex.AS,AB,AE]
  (have c0:=(Lh i L (n+1)) σ s0 g0 h0 (by omega) b0;have h1:=h0.run (D9);have l1:=RM.le (D9) h0.wf;generalize (D9).run s0=y at c0 h1 l1 ⊢;obtain ⟨x0,s1⟩:=y;simp only at c0 h1 l1 ⊢;have b1:(σ.AH i (rsA L s1)).blk i=some (rsA L s1):=AX)
  (repeat' (first|refine ctQ rfl ?_|((first|refine rgQ mxQ ?_|refine cdQ ?_|refine Run.A2 BJ (AK.le_refl _) ?_|(refine AD.upd c0 ?_)|refine AD.det (f1) ?_|refine AD.det (f2) ?_|refine AD.det (f3) ?_|refine AD.det (f4) ?_)<;>try simp -implicitDefEqProofs only [b0',hat,hk3,hk1,go_sem])|fail))
 |false=>
 cases hk2:s0.hd.kind==2 with
 |true=>
  simp only [if_true,if_false,AL,BD,BK,exA,exN,Ex.AS,AB,AE]
  have hkb:Fv.run s0=(s0.hd.text,s0.adv):=if_pos (by rw [hbad,hk2];rfl)
  have c0:=Pj i L (n+1) σ s0 g0 h0 (by omega) b0
  rw [hkb] at c0 ⊢
  have h1:=h0.yJ (by have:=(beq_iff_eq.1 hk2);omega)
  have l1:=Am h0.wf
  simp only at c0 ⊢
  generalize s0.adv=s1 at c0 h1 l1 ⊢
  have b1:(σ.AH i (rsA L s1)).blk i=some (rsA L s1):=AX
  cases hp:s1.is [40] with
  |true=>
   rw [WJ hp,GR]
   (have c1:=CU h1 [40] (σ.AH i (rsA L s1)) b1 hp;rw [AN] at c1;have h2:=h1.adv (t:=[40]) (by decide) hp;have l2:=Am h1.wf;generalize s1.adv=s2 at c1 h2 l2 ⊢;have b2:(σ.AH i (rsA L s2)).blk i=some (rsA L s2):=by rw [AZ,if_pos rfl])
   (have c2:=(XM i L n hE).pc (σ.AH i (rsA L s2)) s2 g0 h2 (by omega) b2;rw [AN] at c2;have h3:=h2.run (BX E [44]);have l3:=RM.le (BX E [44]) h2.wf;generalize (BX E [44]).run s2=y at c2 h3 l3 ⊢;obtain ⟨x2,s3⟩:=y;simp only at c2 h3 l3 ⊢;have b3:(σ.AH i (rsA L s3)).blk i=some (rsA L s3):=AX)
   (have c3:=(B7 i L n [41]) (σ.AH i (rsA L s3)) s3 g0 h3 (by omega) b3;rw [AN] at c3;have h4:=h3.run (RM.A9 [41]);have l4:=RM.le (RM.A9 [41]) h3.wf;generalize (RM.A9 [41]).run s3=y at c3 h4 l4 ⊢;obtain ⟨x3,s4⟩:=y;simp only at c3 h4 l4 ⊢;have b4:(σ.AH i (rsA L s4)).blk i=some (rsA L s4):=AX)
   (repeat' (first|refine ctQ rfl ?_|((first|refine rgQ mxQ ?_|refine cdQ ?_|refine Run.A2 BJ (AK.le_refl _) ?_|(refine AD.upd c0 ?_)|(refine AD.upd c1 ?_)|(refine AD.upd c2 ?_)|(refine AD.upd c3 ?_)|refine AD.det (f1) ?_|refine AD.det (f2) ?_|refine AD.det (f3) ?_|refine AD.det (f4) ?_)<;>try simp -implicitDefEqProofs only [b0',hat,hk3,hk1,hk2,go_sem])|fail))
  |false=>
   rw [WI hp]
   have fp:=CN h1 _ _ b1 hp
   (repeat' (first|refine ctQ rfl ?_|((first|refine rgQ mxQ ?_|refine cdQ ?_|refine Run.A2 BJ (AK.le_refl _) ?_|(refine AD.upd c0 ?_)|refine AD.det (f1) ?_|refine AD.det (f2) ?_|refine AD.det (f3) ?_|refine AD.det (f4) ?_|refine AD.det (fp) ?_)<;>try simp -implicitDefEqProofs only [b0',hat,hk3,hk1,hk2,go_sem])|fail))
 |false=>
 cases t5:s0.is [116,105,99,107] with
 |true=>
  simp only [if_true,if_false,AL,pP,BD,BK]
  (have c0:=CU h0 [116,105,99,107] σ b0 t5;have h1:=h0.adv (t:=[116,105,99,107]) (by decide) t5;have l1:=Am h0.wf;generalize s0.adv=s1 at c0 h1 l1 ⊢;have b1:(σ.AH i (rsA L s1)).blk i=some (rsA L s1):=by rw [AZ,if_pos rfl])
  (have c1:=(B7 i L n [40]) (σ.AH i (rsA L s1)) s1 g0 h1 (by omega) b1;rw [AN] at c1;have h2:=h1.run (RM.A9 [40]);have l2:=RM.le (RM.A9 [40]) h1.wf;generalize (RM.A9 [40]).run s1=y at c1 h2 l2 ⊢;obtain ⟨x1,s2⟩:=y;simp only at c1 h2 l2 ⊢;have b2:(σ.AH i (rsA L s2)).blk i=some (rsA L s2):=AX)
  cases hm:s2.is [45] with
  |true=>
   have hr:(RM.acc [45] (Ju.map fun n=>-n) Ju).run s2=(-(Ju.run s2.adv).1,(Ju.run s2.adv).2):=if_pos hm
   rw [hr]
   simp only [exA,exN,Ex.AS,AB,AE]
   (have c2:=CU h2 [45] (σ.AH i (rsA L s2)) b2 hm;rw [AN] at c2;have h3:=h2.adv (t:=[45]) (by decide) hm;have l3:=Am h2.wf;generalize s2.adv=s3 at c2 h3 l3 ⊢;have b3:(σ.AH i (rsA L s3)).blk i=some (rsA L s3):=by rw [AZ,if_pos rfl])
   have hk:=pQ hN h3
   (have c3:=(Yr i hN n) (σ.AH i (rsA L s3)) s3 g0 h3 (by omega) b3;rw [AN] at c3;have h4:=h3.run (Ju);have l4:=RM.le (Ju) h3.wf;generalize (Ju).run s3=y at c3 h4 l4 hk ⊢;obtain ⟨x3,s4⟩:=y;simp only at c3 h4 l4 hk ⊢;have b4:(σ.AH i (rsA L s4)).blk i=some (rsA L s4):=AX)
   have hng:=neg_num hk
   (have c4:=(B7 i L n [41]) (σ.AH i (rsA L s4)) s4 g0 h4 (by omega) b4;rw [AN] at c4;have h5:=h4.run (RM.A9 [41]);have l5:=RM.le (RM.A9 [41]) h4.wf;generalize (RM.A9 [41]).run s4=y at c4 h5 l5 ⊢;obtain ⟨x4,s5⟩:=y;simp only at c4 h5 l5 ⊢;have b5:(σ.AH i (rsA L s5)).blk i=some (rsA L s5):=AX)
   (repeat' (first|refine ctQ rfl ?_|((first|refine rgQ mxQ ?_|refine cdQ ?_|refine Run.A2 BJ (AK.le_refl _) ?_|(refine AD.upd c0 ?_)|(refine AD.upd c1 ?_)|(refine AD.upd c2 ?_)|(refine AD.upd c3 ?_)|(refine AD.upd c4 ?_)|refine AD.det (f1) ?_|refine AD.det (f2) ?_|refine AD.det (f3) ?_|refine AD.det (f4) ?_)<;>try simp -implicitDefEqProofs only [b0',hat,hk3,hk1,hk2,hng,go_sem])|fail))
  |false=>
   have hr:(RM.acc [45] (Ju.map fun n=>-n) Ju).run s2=Ju.run s2:=if_neg (by rw [hm];decide)
   rw [hr]
   simp only [exA,exN,Ex.AS,AB,AE]
   have fm:=CN h2 _ _ b2 hm
   (have c2:=(Yr i hN n) (σ.AH i (rsA L s2)) s2 g0 h2 (by omega) b2;rw [AN] at c2;have h3:=h2.run (Ju);have l3:=RM.le (Ju) h2.wf;generalize (Ju).run s2=y at c2 h3 l3 ⊢;obtain ⟨x2,s3⟩:=y;simp only at c2 h3 l3 ⊢;have b3:(σ.AH i (rsA L s3)).blk i=some (rsA L s3):=AX)
   (have c3:=(B7 i L n [41]) (σ.AH i (rsA L s3)) s3 g0 h3 (by omega) b3;rw [AN] at c3;have h4:=h3.run (RM.A9 [41]);have l4:=RM.le (RM.A9 [41]) h3.wf;generalize (RM.A9 [41]).run s3=y at c3 h4 l4 ⊢;obtain ⟨x3,s4⟩:=y;simp only at c3 h4 l4 ⊢;have b4:(σ.AH i (rsA L s4)).blk i=some (rsA L s4):=AX)
   (repeat' (first|refine ctQ rfl ?_|((first|refine rgQ mxQ ?_|refine cdQ ?_|refine Run.A2 BJ (AK.le_refl _) ?_|(refine AD.upd c0 ?_)|(refine AD.upd c1 ?_)|(refine AD.upd c2 ?_)|(refine AD.upd c3 ?_)|refine AD.det (f1) ?_|refine AD.det (f2) ?_|refine AD.det (f3) ?_|refine AD.det (f4) ?_|refine AD.det (fm) ?_)<;>try simp -implicitDefEqProofs only [b0',hat,hk3,hk1,hk2,go_sem])|fail))
 |false=>
 have f5:=CN h0 _ σ b0 t5
 cases t6:s0.is [114,97,105,115,101] with
 |true=>
  simp only [if_true,if_false,AL,Ob,BD,BK]
  (have c0:=CU h0 [114,97,105,115,101] σ b0 t6;have h1:=h0.adv (t:=[114,97,105,115,101]) (by decide) t6;have l1:=Am h0.wf;generalize s0.adv=s1 at c0 h1 l1 ⊢;have b1:(σ.AH i (rsA L s1)).blk i=some (rsA L s1):=by rw [AZ,if_pos rfl])
  (have c1:=(B7 i L n [40]) (σ.AH i (rsA L s1)) s1 g0 h1 (by omega) b1;rw [AN] at c1;have h2:=h1.run (RM.A9 [40]);have l2:=RM.le (RM.A9 [40]) h1.wf;generalize (RM.A9 [40]).run s1=y at c1 h2 l2 ⊢;obtain ⟨x1,s2⟩:=y;simp only at c1 h2 l2 ⊢;have b2:(σ.AH i (rsA L s2)).blk i=some (rsA L s2):=AX)
  (have c2:=hE (σ.AH i (rsA L s2)) s2 g0 h2 (by omega) b2;rw [AN] at c2;have h3:=h2.run (E);have l3:=RM.le (E) h2.wf;generalize (E).run s2=y at c2 h3 l3 ⊢;obtain ⟨x2,s3⟩:=y;simp only at c2 h3 l3 ⊢;have b3:(σ.AH i (rsA L s3)).blk i=some (rsA L s3):=AX;obtain ⟨o2,n2,u2,ns2,ks2,al2⟩:=x2;simp only [exA,Ex.AS,AB,AE] at c2 ⊢)
  (have c3:=(B7 i L n [41]) (σ.AH i (rsA L s3)) s3 g0 h3 (by omega) b3;rw [AN] at c3;have h4:=h3.run (RM.A9 [41]);have l4:=RM.le (RM.A9 [41]) h3.wf;generalize (RM.A9 [41]).run s3=y at c3 h4 l4 ⊢;obtain ⟨x3,s4⟩:=y;simp only at c3 h4 l4 ⊢;have b4:(σ.AH i (rsA L s4)).blk i=some (rsA L s4):=AX)
  simp only [exN,Ex.AS,AB,AE]
  (repeat' (first|refine ctQ rfl ?_|((first|refine rgQ mxQ ?_|refine cdQ ?_|refine Run.A2 BJ (AK.le_refl _) ?_|(refine AD.upd c0 ?_)|(refine AD.upd c1 ?_)|(refine AD.upd c2 ?_)|(refine AD.upd c3 ?_)|refine AD.det (f1) ?_|refine AD.det (f2) ?_|refine AD.det (f3) ?_|refine AD.det (f4) ?_|refine AD.det (f5) ?_)<;>try simp -implicitDefEqProofs only [b0',hat,hk3,hk1,hk2,go_sem])|fail))
 |false=>
 have f6:=CN h0 _ σ b0 t6
 simp only [if_false,AL]
 have hpl:=nK E s0
 simp only [H9] at hpl
 rw [hpl]
 clear hpl
 (repeat' (first|refine ctQ rfl ?_|((first|refine rgQ mxQ ?_|refine cdQ ?_|refine AD.det (f1) ?_|refine AD.det (f2) ?_|refine AD.det (f3) ?_|refine AD.det (f4) ?_|refine AD.det (f5) ?_|refine AD.det (f6) ?_)<;>try simp -implicitDefEqProofs only [b0',hat,hk3,hk1,hk2,go_sem])|fail))
 refine Run.BU ?_
 refine Run.BZ ((fun (a0:AV) (a2:AV)=>fun (k:Nat)=>put 0 a0 (put 2 a2 (put 9 (.d (.int .i64 (k:Nat))) U))) _ _) (fun _=>Aq 2 [.d (.int .i64 0),.d (.str []),.d (.int .i64 0),.AO,.AO,.AO] Ab.E) (fun _=>σ) (fun k=>1≤k∧k≤8∧(XN E (8 - k) k).run s0=(XN E 7 1).run s0) (fun k=>8 - k) ?_ 1 ⟨by omega,by omega,rfl⟩
 rintro k ⟨q1,q2,q3⟩ ih
 by_cases hk7:k≤7
 · obtain ⟨m,hm⟩:∃m,8 - k=m+1:=⟨7 - k,by omega⟩
   have hpr:=aJ (k:Int) σ (by omega)
   have hw:=BV (a:=k) (by omega)
   rw [hm,XN,H9] at q3
   cases ht:s0.is (prT (k:Int)) with
   |true=>
    rw [ht,if_pos rfl] at q3
    rw [← q3]
    have h13:=jP q1 hk7
    have har:=fun τ=>Mo (k:Int) τ
    simp only [wW,BD,BK,exA,exN,Ex.AS,AB,AE]
    have c0:=CU h0 (prT (k:Int)) σ b0 ht
    have h1:=h0.adv trivial ht
    have l1:=Am h0.wf
    generalize s0.adv=s1 at c0 h1 l1 ⊢
    have b1:(σ.AH i (rsA L s1)).blk i=some (rsA L s1):=AX
    (have c1:=(B7 i L n [40]) (σ.AH i (rsA L s1)) s1 g0 h1 (by omega) b1;rw [AN] at c1;have h2:=h1.run (RM.A9 [40]);have l2:=RM.le (RM.A9 [40]) h1.wf;generalize (RM.A9 [40]).run s1=y at c1 h2 l2 ⊢;obtain ⟨x1,s2⟩:=y;simp only at c1 h2 l2 ⊢;have b2:(σ.AH i (rsA L s2)).blk i=some (rsA L s2):=AX)
    clear ih q3 hm
    generalize Le (k:Int)=m at h13 har ⊢
    (repeat' (first|refine ctQ rfl ?_|((first|refine rgQ mxQ ?_|refine cdQ ?_|(refine AD.upd c0 ?_)|(refine AD.upd c1 ?_)|refine AD.det (hpr) ?_)<;>try simp -implicitDefEqProofs only [oY hk7,go_sem])|fail))
    refine Run.BU ?_
    refine Run.BZ ((fun (a0:AV) (a2:AV) (a9:AV) (a10:AV)=>fun (y:RSt×List Ex×Nat×AV×AK)=>put 0 a0 (put 2 a2 (put 9 a9 (put 10 a10 (put 11 (.d (.int .i64 (y.2.2.1:Nat))) U))))) _ _ _ _) (fun y=>Aq 2 [.d (.int .i64 0),.d (.str []),.d (.int .i64 0),.AO,.AO,.AO] (Aq 10 [.d (.int .i64 14),.d (.str []),.d (.int .i64 (k:Nat)),.AO,y.2.2.2.1,.AO] Ab.E)) (fun y=>y.2.2.2.2) (fun y=>ROk L y.1∧y.1.r.length≤n∧y.2.1.length=y.2.2.1∧y.2.2.1≤m∧RS σ i L y.1 44 6 (y.2.1.map Ex.enc) y.2.2.2.1 y.2.2.2.2∧(XJ E (m - y.2.2.1) y.2.1).run y.1=(XJ E m []).run s2) (fun y=>m - y.2.2.1) ?_ (s2,[],0,.AO,_) ⟨h2,by simp only;omega,rfl,by simp,RS.nil σ i L s2 _ _,rfl⟩
    rintro ⟨s3,l,j,v,τ⟩ ⟨p1,p2,p3,p4,p5,p6⟩ ih
    simp only at p1 p2 p3 p4 p5 p6
    have hwj:=BV (a:=j) (by omega)
    by_cases hj:j < m
    · obtain ⟨q,hq⟩:∃q,m - j=q+1:=⟨m - j - 1,by omega⟩
      rw [hq,XJ,BD] at p6
      have har':=har τ
      by_cases hj0:j=0
      · subst hj0
        obtain rfl:l=[]:=OE.1 p3
        simp only [if_true,BK,BD] at p6
        have c3:=hE τ s3 trivial p1 p2 p5.blk
        have h3:=p1.run E
        have l3:=RM.le E p1.wf
        have p5a:=p5.step (E.run s3).2
        generalize E.run s3=y at c3 h3 l3 p5a p6
        obtain ⟨x,s4⟩:=y
        simp only at c3 h3 l3 p5a p6
        obtain ⟨o,nm,u,ns,ks,al⟩:=x
        simp only [exA,Ex.AS,AB,AE] at c3
        (repeat' (first|refine ctQ rfl ?_|((first|refine rgQ mxQ ?_|refine cdQ ?_|(refine AD.upd c3 ?_)|refine AD.det (har') ?_)<;>try simp -implicitDefEqProofs only [Zt,decide_eq_true hj,uO,decide_eq_false (Nat.lt_irrefl 0),p5.own.cell,go_sem])|fail))
        refine p5a.tok rfl (by simp) (by simp) (by decide) (fun v2 τ2 ho=>?_);simp -implicitDefEqProofs only [ho.own.cells,ho.own.cell,if_true,go_sem]
        (repeat' (first|refine ctQ rfl ?_|((first|refine rgQ mxQ ?_|refine cdQ ?_)<;>try simp -implicitDefEqProofs only [if_true,hwj,go_sem])|fail))
        refine ih (s4,[]++[Ex.mk o nm u ns ks al],0+1,v2,τ2) ⟨h3,by simp only;omega,by simp,by simp only;omega,?_,?_⟩ (by simp only;omega)
        · simp only [Ax,AB,AE,Ex.AS];exact ho
        · simp only;rw [show m - (0+1)=q by omega];exact p6
      · have hl0:l≠[]:=fun e=>by subst e;simp at p3;omega
        simp only [hl0,if_false,BD] at p6
        have e2:=CT p1 [44] τ p5.blk
        have h2b:=p1.run (RM.A9 [44])
        have l2b:=RM.le (RM.A9 [44]) p1.wf
        have p5b:=p5.step ((RM.A9 [44]).run s3).2
        generalize ((RM.A9 [44]).run s3).2=s3b at e2 h2b l2b p5b p6
        have c3:=hE _ s3b trivial h2b (by omega) p5b.blk
        rw [AN] at c3
        have h3:=h2b.run E
        have l3:=RM.le E h2b.wf
        have p5a:=p5.step (E.run s3b).2
        generalize E.run s3b=y at c3 h3 l3 p5a p6
        obtain ⟨x,s4⟩:=y
        simp only at c3 h3 l3 p5a p6
        obtain ⟨o,nm,u,ns,ks,al⟩:=x
        simp only [exA,Ex.AS,AB,AE] at c3
        (repeat' (first|refine ctQ rfl ?_|((first|refine rgQ mxQ ?_|refine cdQ ?_|(refine AD.upd e2 ?_)|(refine AD.upd c3 ?_)|refine AD.det (har') ?_)<;>try simp -implicitDefEqProofs only [Zt,decide_eq_true hj,uO,decide_eq_true (V1 hj0),p5.own.cell,go_sem])|fail))
        refine p5a.tok rfl (by simp) (by simp;omega) (by decide) (fun v2 τ2 ho=>?_);simp -implicitDefEqProofs only [ho.own.cells,ho.own.cell,if_true,go_sem]
        (repeat' (first|refine ctQ rfl ?_|((first|refine rgQ mxQ ?_|refine cdQ ?_)<;>try simp -implicitDefEqProofs only [if_true,hwj,go_sem])|fail))
        refine ih (s4,l++[Ex.mk o nm u ns ks al],j+1,v2,τ2) ⟨h3,by simp only;omega,by simp [p3],by simp only;omega,?_,?_⟩ (by simp only;omega)
        · simp only [Ax,AB,AE,Ex.AS];exact ho
        · simp only;rw [show m - (j+1)=q by omega];exact p6
    · obtain rfl:j=m:=by omega
      rw [Nat.sub_self,XJ] at p6
      simp only [BK] at p6
      rw [← p6]
      simp only
      have har':=har τ
      have e2:=CT p1 [41] τ p5.blk
      have p5b:=p5.step ((RM.A9 [41]).run s3).2
      (repeat' (first|refine ctQ rfl ?_|((first|refine rgQ mxQ ?_|refine cdQ ?_|(refine AD.upd e2 ?_)|(refine Run.A2 BJ p5b.le ?_)|refine AD.det (har') ?_)<;>try simp -implicitDefEqProofs only [Zt,decide_eq_false hj,p5.own.cell,p5.own.plain,go_sem])|fail))
   |false=>
    rw [ht,if_neg (by decide)] at q3
    have f7:=CN h0 _ σ b0 ht
    (repeat' (first|refine ctQ rfl ?_|((first|refine rgQ mxQ ?_|refine cdQ ?_|refine AD.det (hpr) ?_|refine AD.det (f7) ?_)<;>try simp -implicitDefEqProofs only [oY hk7,hw,go_sem])|fail))
    exact ih (k+1) ⟨by omega,by omega,by rw [show 8 - (k+1)=m by omega];exact q3⟩ (by omega)
 · have:k=8:=by omega
   subst this
   rw [← q3]
   have hp0:(XN E (8 - 8) 8).run s0=(exN 0 0 [],⟨s0.r,true⟩):=rfl
   rw [hp0]
   simp only [exA,exN,Ex.AS,AB,AE]
   have hfin:rsA L ⟨s0.r,true⟩=[.d (.sl (L.map Tok.enc)),.d (.int .i64 ((L.length - s0.r.length:Nat):Int)),.d (.bool true)]:=rfl
   rw [hfin]
   (repeat' (first|refine ctQ rfl ?_|((first|refine rgQ mxQ ?_|refine cdQ ?_|refine Run.A2 BJ (AK.le_refl _) ?_)<;>try simp -implicitDefEqProofs only [ABX hk7,b0',go_sem])|fail))
end Go.Ab
