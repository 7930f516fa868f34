/- Reference scope: Data, the arguments of a constructor. Reference scope: Data, the constructors of a declaration. Reference scope: Data. Reference scope: functions and alternatives. Conditions: none. -/
import Derived.Test.YtlckhmkeihbhmaaGreatXAw
set_option linter.unusedSimpArgs false
set_option linter.unusedVariables false
set_option maxRecDepth 4000
set_option maxHeartbeats 8000000
open Nat renaming le_refl→A0,succ_mul→Jb,mul_le_mul_right→BN,min_eq_left→CT
open List renaming map_cons→AH,take_append_drop→A4,mem_of_getElem?→AS,map_nil→AM,all_cons→BT,all_nil→Cw,length_map→AA,take_of_length_le→AG,map_append→CR,append_assoc→Ah,mem_append_left→OQ,mem_cons_of_mem→Ao,mem_cons_self→Ai,flatMap_cons→MD,length_append→AT,length_cons→A5,getElem?_eq_some_iff→AR,length_take→Ae,getElem?_map→Ad,getElem?_take→BM,mem_of_mem_take→Bi,all_eq_true→Aj,contains_iff_mem→Aa,any_cons→IP,length_pos_iff→Et
open Except renaming map→CU
open Bool renaming and_true→Az,true_and→BD,false_eq_true→AZ,true_or→J8,false_or→DW,and_eq_true→AN,eq_iff_iff→Af,not_false→Eb,or_false→Gg,false_and→B2
open Option renaming isSome_some→Br,isSome_none→CD,map_eq_some_iff→AE
namespace Go.Ab
open Go.Proofs
theorem Vl (ps:List DE) (fs:List FE) (ds:List (Str×Nat)) (vars:List Str) (hh:jO ps ds vars) (t:TE) (hsz:t.size≤1000000) (nv:AV) (hnv:nv.plain= .d (.sl ((ds.map (·.1)).map Ak))) (whole:Bool) (τ:AF):
 AK Tryz.prog 60 [pgA ⟨ps,fs⟩,nv,.d (.sl (vars.map Ak)),teA t,.d (.bool whole)] τ (fun v σ'=>v=Oy (IB ds vars whole t)∧σ'=τ):=by
 refine AK.plain ?_
 have:=Wu ps fs ds vars hh t.size t whole τ (A0 _) hsz
 have hp:∀l:List DV,AV.DA (l.map AV.d)=l.map AV.d:=fun l=>by
  induction l with
  |nil=>rfl
  |cons x l ih=>rw [AH,AV.DA,GG,ih]
 simp only [AV.DA,hnv,GG,pgA,teA,H8,hp]
 exact this
theorem dC (Q:AV→AF→Prop) (rest:List CI) (ps:List DE) (fs:List FE) (ds:List (Str×Nat)) (dn:Str) (dvs':List Str) (dcs:List CE) (hh:jO ps ds dvs') (cn:Str) (car:List TE) (ci i:Nat) (hc:dcs[ci]?=some ⟨cn,car⟩) (hsm:∀t∈car,t.size≤1000000) (hal:car.length≤1000)
 (σ0 τ:AF) (out nv used a9 b9 consv:AV) (l:List Ow) (hown:Gp σ0 l τ) (hle:σ0.le τ) (hnv:nv.plain= .d (.sl ((ds.map (·.1)).map Ak))) (hnl:nv.BF=true) (hlp:∀k,nv.BG k=false∧out.BG k=false∧used.BG k=false)
 (herr:∀e,Dw ds dvs' car= .error e→Q (.tup [.d (.sl []),.agg [.d (.int .i64 e),.d (.int .i64 (-1)),.d (.int .i64 i)]]) σ0)
 (hfin:∀us uv τ',Dw ds dvs' car= .ok us→Gp σ0 (⟨57,3,us.map Ty.enc,uv⟩::l) τ'→σ0.le τ'→Run Dy Q rest
   (put 1 (.lp 1 0) (put 3 (.lp 3 0) (put 4 out (put 5 nv (put 6 used (put 7 (.d (.int .i64 i)) (put 8 (.lp 8 0) (put 9 (.lp 9 0) (put 10 (.d (.int .i64 ci)) (put 11 (.lp 11 0) (put 12 (.d (.int .i64 car.length)) (put 96 (.d (.bool false)) U))))))))))))
   (BA 1 [.d (.sl (ps.map DE.enc)),.d (.sl (fs.map FE.enc))] (BA 3 [.d (.int .i64 0),.d (.int .i64 0),.d (.int .i64 0)] (BA 8 [.d (.str dn),.d (.sl (dvs'.map Ak)),.d (.sl (dcs.map CE.enc))] (BA 9 [a9,b9,consv] (BA 11 [.d (.str cn),uv] E))))) τ'):
 Run Dy Q (.code (.loop RY)::.blk 4::rest)
  (put 1 (.lp 1 0) (put 3 (.lp 3 0) (put 4 out (put 5 nv (put 6 used (put 7 (.d (.int .i64 i)) (put 8 (.lp 8 0) (put 9 (.lp 9 0) (put 10 (.d (.int .i64 ci)) (put 11 (.lp 11 0) (put 12 (.d (.int .i64 0)) U)))))))))))
  (BA 1 [.d (.sl (ps.map DE.enc)),.d (.sl (fs.map FE.enc))] (BA 3 [.d (.int .i64 0),.d (.int .i64 0),.d (.int .i64 0)] (BA 8 [.d (.str dn),.d (.sl (dvs'.map Ak)),.d (.sl (dcs.map CE.enc))] (BA 9 [a9,b9,consv] (BA 11 [.d (.str cn),.AU] E))))) τ:=by
 have hlp1:=fun k=>(hlp k).1
 have hlp2:=fun k=>(hlp k).2.1
 have hlp3:=fun k=>(hlp k).2.2
 have hec:=Aq (enc:=CE.enc) hc
 simp only [CE.enc] at hec
 refine Run.Ay ?_
 refine Run.BB ((fun (a1:AV) (a3:AV) (a4:AV) (a5:AV) (a6:AV) (a7:AV) (a8:AV) (a9:AV) (a10:AV) (a11:AV)=>fun (y:Nat×List Ty×AV×AF)=>put 1 a1 (put 3 a3 (put 4 a4 (put 5 a5 (put 6 a6 (put 7 a7 (put 8 a8 (put 9 a9 (put 10 a10 (put 11 a11 (put 12 (.d (.int .i64 y.1)) U))))))))))) _ _ _ _ _ _ _ _ _ _) (fun y=>BA 1 [.d (.sl (ps.map DE.enc)),.d (.sl (fs.map FE.enc))] (BA 3 [.d (.int .i64 0),.d (.int .i64 0),.d (.int .i64 0)] (BA 8 [.d (.str dn),.d (.sl (dvs'.map Ak)),.d (.sl (dcs.map CE.enc))] (BA 9 [a9,b9,consv] (BA 11 [.d (.str cn),y.2.2.1] E))))) (fun y=>y.2.2.2)
  (fun y=>y.1≤car.length∧y.2.1.length=y.1∧Dw ds dvs' (car.take y.1)= .ok y.2.1∧Gp σ0 (⟨57,3,y.2.1.map Ty.enc,y.2.2.1⟩::l) y.2.2.2∧σ0.le y.2.2.2) (fun y=>car.length - y.1) ?_ (0,[],.AU,τ) ⟨by simp,rfl,rfl,hown.nil hle 57 3,hle⟩
 rintro ⟨k,us,uv,τ1⟩ ⟨hk,hlu,hok,ho,hle1⟩ ih2
 simp only at hk hlu hok ho hle1
 have hoh:=ho.head
 simp only at hoh
 by_cases hlt:k < car.length
 · obtain ⟨x,hx⟩:=Aw hlt
   have he:=Aq (enc:=TE.enc) hx
   have hw1:=A7 (show k+1≤9000000000000000000 by omega)
   have hall:Dw ds dvs' car=(Dw ds dvs' (x::car.drop (k+1))).map (us++·):=by
    conv=>lhs;rw [← A4 k car,Bc hx]
    exact MG _ _ _ hok
   have hsn:Dw ds dvs' (car.take (k+1))=(Dw ds dvs' [x]).map (us++·):=by
    rw [Am hx];exact MG _ _ _ hok
   rw [Dw] at hall
   rw [Dw,Dw] at hsn
   have hcl:=Vl ps fs ds dvs' hh x (hsm x (AS hx)) nv hnv true τ1
   simp only [pgA,Pg.enc,AH,AM] at hcl
   cases hr:IB ds dvs' true x with
   |error e=>
    rw [hr] at hcl hall
    simp only [CU] at hall
    have hxe:=herr e hall
    have hne:=Ro x true e hr
    have hne':(e != 0)=true:=by simpa using hne
    obtain ⟨xk,xn,xl⟩:=x
    simp only [TE.A3,teA,AH,AM,Oy] at he hcl
    (repeat' (first|refine Run.ct rfl ?_|((first|refine Run.reg mixed ?_|refine Run.AD ?_|(refine AI.mk (by simp only [BT,Cw,hnl,Az,BD];rfl) hcl ?_;rintro _ _ ⟨rfl,rfl⟩)|(refine Run.A1 Ii (σ2:=σ0) hle1 ?_))<;>try simp -implicitDefEqProofs only [A8 hlt,hec,he,hne',hoh.cell,AA,hlp1,hlp2,hlp3,go_sem])|fail))
    exact hxe
   |ok u=>
    rw [hr] at hcl hsn
    simp only [CU] at hsn
    obtain ⟨uk,un,ul⟩:=u
    obtain ⟨xk,xn,xl⟩:=x
    simp only [TE.A3,teA,AH,AM,Oy,tyA,Ty.enc] at he hcl
    have h00:((0:Int) != 0)=false:=by decide
    (repeat' (first|refine Run.ct rfl ?_|((first|refine Run.reg mixed ?_|refine Run.AD ?_|(refine AI.mk (by simp only [BT,Cw,hnl,Az,BD];rfl) hcl ?_;rintro _ τ1 ⟨rfl,rfl⟩)|(refine Dh.iL (cx:=Dy) ho rfl (by simp) (by simp;omega) (by decide) (fun v2 σ2 ho2 hbk=>?_)))<;>try simp -implicitDefEqProofs only [A8 hlt,hec,he,hw1,h00,hoh.cell,hoh.cells,hoh.BF,hoh.BG,AA,hlp1,hlp2,hlp3,go_sem])|fail))
    have ho2h:=ho2.head
    simp only at ho2h
    simp -implicitDefEqProofs only [ho2h.cells,ho2h.cell,go_sem]
    (repeat' (first|refine Run.ct rfl ?_|((first|refine Run.reg mixed ?_|refine Run.AD ?_)<;>try simp -implicitDefEqProofs only [hw1,ho2h.cell,ho2h.cells,go_sem])|fail))
    exact ih2 (k+1,us++[.mk uk un ul],v2,σ2) ⟨by simp only;omega,by simp [hlu],hsn,by simpa [Ty.enc] using ho2,ho2h.le⟩ (by simp only;omega)
 · rw [AG (by omega)] at hok
   have:=hfin us uv τ1 hok ho hle1
   (repeat' (first|refine Run.ct rfl ?_|((first|refine Run.reg mixed ?_|refine Run.AD ?_)<;>try simp -implicitDefEqProofs only [B8 hlt,hec,AA,go_sem])|fail))
   have hke:k=car.length:=by omega
   subst hke
   exact this
end Go.Ab
namespace Go.Ab
open Go.Proofs
theorem Ov (l:List Str) (s:Str) (v:AV) (hv:v.plain= .d (.sl (l.map Ak))) (σ:AF):AK Tryz.prog 59 [v,.d (.str s)] σ (fun v σ'=>v= .d (.int .i64 (Ee (Cd l s)))∧σ'=σ):=by
 refine AK.plain ?_
 simp only [AV.DA,hv,GG]
 exact Qu l s σ
theorem dD (Q:AV→AF→Prop) (rest:List CI) (ps:List DE) (fs:List FE) (ds:List (Str×Nat)) (dn:Str) (dvs':List Str) (dcs:List CE) (hh:jO ps ds dvs') (i:Nat) (hcl:dcs.length≤1000) (hsm:∀c∈dcs,P5 c∧c.args.length≤1000)
 (σ0 τ:AF) (out nv usedv a9 b9:AV) (h9:a9.BV=true∧b9.BV=true) (ul:List Str) (hul:ul.length≤100000) (lo:List Ow) (hown:Gp σ0 (⟨9,1,ul.map Ak,usedv⟩::lo) τ) (hle:σ0.le τ) (hnv:nv.plain= .d (.sl ((ds.map (·.1)).map Ak))) (hnl:nv.BF=true) (hlp:∀k,nv.BG k=false∧out.BG k=false)
 (herr:∀e,Eo ds dvs' ul dcs= .error e→Q (.tup [.d (.sl []),.agg [.d (.int .i64 e),.d (.int .i64 (-1)),.d (.int .i64 i)]]) σ0)
 (hfin:∀us usedv' consv' τ',Eo ds dvs' ul dcs= .ok us→Gp σ0 (⟨9,1,(ul++dcs.map (·.name)).map Ak,usedv'⟩::⟨124,2,us.map Con.enc,consv'⟩::lo) τ'→σ0.le τ'→Run Dy Q rest
   (put 1 (.lp 1 0) (put 3 (.lp 3 0) (put 4 out (put 5 nv (put 6 usedv' (put 7 (.d (.int .i64 i)) (put 8 (.lp 8 0) (put 9 (.lp 9 0) (put 10 (.d (.int .i64 dcs.length)) (put 58 (.d (.bool false)) U))))))))))
   (BA 1 [.d (.sl (ps.map DE.enc)),.d (.sl (fs.map FE.enc))] (BA 3 [.d (.int .i64 0),.d (.int .i64 0),.d (.int .i64 0)] (BA 8 [.d (.str dn),.d (.sl (dvs'.map Ak)),.d (.sl (dcs.map CE.enc))] (BA 9 [a9,b9,consv'] E)))) τ'):
 Run Dy Q (.code (.loop RZ)::.blk 2::rest)
  (put 1 (.lp 1 0) (put 3 (.lp 3 0) (put 4 out (put 5 nv (put 6 usedv (put 7 (.d (.int .i64 i)) (put 8 (.lp 8 0) (put 9 (.lp 9 0) (put 10 (.d (.int .i64 0)) U)))))))))
  (BA 1 [.d (.sl (ps.map DE.enc)),.d (.sl (fs.map FE.enc))] (BA 3 [.d (.int .i64 0),.d (.int .i64 0),.d (.int .i64 0)] (BA 8 [.d (.str dn),.d (.sl (dvs'.map Ak)),.d (.sl (dcs.map CE.enc))] (BA 9 [a9,b9,.AU] E)))) τ:=by
 have hlp1:=fun k=>(hlp k).1
 have hlp2:=fun k=>(hlp k).2
 refine Run.Ay ?_
 refine Run.BB ((fun (a1:AV) (a3:AV) (a4:AV) (a5:AV) (a7:AV) (a8:AV) (a9:AV)=>fun (y:Nat×List Con×AV×AV×AF)=>put 1 a1 (put 3 a3 (put 4 a4 (put 5 a5 (put 6 (y.2.2.1) (put 7 a7 (put 8 a8 (put 9 a9 (put 10 (.d (.int .i64 y.1)) U))))))))) _ _ _ _ _ _ _) (fun y=>BA 1 [.d (.sl (ps.map DE.enc)),.d (.sl (fs.map FE.enc))] (BA 3 [.d (.int .i64 0),.d (.int .i64 0),.d (.int .i64 0)] (BA 8 [.d (.str dn),.d (.sl (dvs'.map Ak)),.d (.sl (dcs.map CE.enc))] (BA 9 [a9,b9,y.2.2.2.1] E)))) (fun y=>y.2.2.2.2)
  (fun y=>y.1≤dcs.length∧y.2.1.length=y.1∧Eo ds dvs' ul (dcs.take y.1)= .ok y.2.1∧Gp σ0 (⟨9,1,(ul++(dcs.take y.1).map (·.name)).map Ak,y.2.2.1⟩::⟨124,2,y.2.1.map Con.enc,y.2.2.2.1⟩::lo) y.2.2.2.2∧σ0.le y.2.2.2.2) (fun y=>dcs.length - y.1) ?_ (0,[],usedv,.AU,τ) ⟨by simp,rfl,rfl,by simpa using (hown.nil hle 124 2).perm (List.Perm.swap _ _ _),hle⟩
 rintro ⟨k,us,uv,cv,τ1⟩ ⟨hk,hlu,hok,ho,hle1⟩ ih
 simp only at hk hlu hok ho hle1
 have hou:=ho.head
 have hoc:=ho.tail.head
 simp only at hou hoc
 by_cases hlt:k < dcs.length
 · obtain ⟨c,hc⟩:=Aw hlt
   have he:=Aq (enc:=CE.enc) hc
   have hw1:=A7 (show k+1≤9000000000000000000 by omega)
   obtain ⟨hall,hnames⟩:=K0 ds dvs' (dcs.drop k) hok
   rw [A4,Bc hc] at hall
   obtain ⟨hsn,_⟩:=K0 ds dvs' [c] hok
   rw [← Am hc] at hsn
   obtain ⟨hcsm,hcal⟩:=hsm c (AS hc)
   have hfi:=Ov (ul++(dcs.take k).map (·.name)) c.name uv hou.plain τ1
   have hin:(Cd (ul++(dcs.take k).map (·.name)) c.name).isSome=(ul++(dcs.take k).map (·.name)).contains c.name:=G1 _ _
   rw [Eo] at hall hsn
   have hcc:=hc
   obtain ⟨cn,ar⟩:=c
   simp only [CE.enc] at he hin hall hsn hcal hfi
   cases hix:Cd (ul++(dcs.take k).map (·.name)) cn with
   |some q=>
    rw [hix] at hfi hin
    simp only [Br] at hin
    rw [← hin,if_pos rfl] at hall
    have hxe:=herr 4 hall
    have hge:decide ((0:Int)≤(q:Int))=true:=by simp
    simp only [Ee] at hfi
    (repeat' (first|refine Run.ct rfl ?_|((first|refine Run.reg mixed ?_|refine Run.AD ?_|(refine AI.mk (by simp only [BT,Cw,hou.BF,Az,BD];rfl) hfi ?_;rintro _ _ ⟨rfl,rfl⟩)|(refine Run.A1 Ii (σ2:=σ0) hle1 ?_))<;>try simp -implicitDefEqProofs only [A8 hlt,he,hge,AA,hlp1,hlp2,hou.BG,go_sem])|fail))
    exact hxe
   |none=>
    rw [hix] at hfi hin
    simp only [CD] at hin
    rw [← hin,if_neg (by simp)] at hall hsn
    have hge:decide ((0:Int)≤-1)=false:=by decide
    simp only [Ee] at hfi
    (repeat' (first|refine Run.ct rfl ?_|((first|refine Run.reg mixed ?_|refine Run.AD ?_|(refine AI.mk (by simp only [BT,Cw,hou.BF,Az,BD];rfl) hfi ?_;rintro _ τ1 ⟨rfl,rfl⟩)|(refine Dh.iL (cx:=Dy) ho rfl (by simp) (by simp;omega) (by decide) (fun v2 τ2 ho2 hbk=>?_)))<;>try simp -implicitDefEqProofs only [A8 hlt,he,hge,AA,hlp1,hlp2,hou.BG,go_sem])|fail))
    have ho2h:=ho2.head
    simp only at ho2h
    simp only [ho2h.BG,AZ,if_false]
    refine dC Q _ ps fs ds dn dvs' dcs hh cn ar k i hcc hcsm hcal σ0 τ2 out nv v2 a9 b9 cv _ ho2 ho2h.le hnv hnl (fun k=>⟨hlp1 k,hlp2 k,ho2h.BG k⟩) (fun e he'=>?_) (fun ts av τ3 hts ho3 hle3=>?_)
    · rw [he'] at hall
      exact herr e hall
    · rw [hts] at hsn
      simp only [Eo,CU] at hsn
      have ho3a:=ho3.head
      have ho3c:=(ho3.tail.perm (List.Perm.swap _ _ _))
      simp only at ho3a
      have hoc3:=ho3c.head
      simp only at hoc3
      (repeat' (first|refine Run.ct rfl ?_|((first|refine Run.reg mixed ?_|refine Run.AD ?_|(refine Dh.iL (cx:=Dy) ho3c rfl (by simp) (by simp;omega) (by decide) (fun v4 τ4 ho4 hbk4=>?_)))<;>try simp -implicitDefEqProofs only [hw1,hoc3.cell,hoc3.cells,ho3a.cell,ho3a.dv,AA,hlp1,hlp2,ho2h.BG,h9.1,h9.2,go_sem])|fail))
      have ho5:=ho4.perm (List.Perm.swap _ _ _)
      have h4h:=ho4.head
      have h5h:=ho5.head
      simp only at h4h h5h
      simp -implicitDefEqProofs only [h4h.cells,h4h.cell,go_sem]
      (repeat' (first|refine Run.ct rfl ?_|((first|refine Run.reg mixed ?_|refine Run.AD ?_)<;>try simp -implicitDefEqProofs only [hw1,h4h.cells,h4h.cell,hlp1,hlp2,h5h.BG,go_sem])|fail))
      exact ih (k+1,us++[(⟨cn,ts⟩:Con)],v2,v4,τ4) ⟨by simp only;omega,by simp [hlu],hsn,by
       simp only [Am hcc,CR,AH,AM,← Ah] at ho5 ⊢
       simpa [Con.enc,Ty.Ed,Ak] using ho5,h4h.le⟩ (by simp only;omega)
 · rw [AG (by omega)] at hok ho
   have:=hfin us uv cv τ1 hok ho hle1
   have hke:k=dcs.length:=by omega
   subst hke
   (repeat' (first|refine Run.ct rfl ?_|((first|refine Run.reg mixed ?_|refine Run.AD ?_)<;>try simp -implicitDefEqProofs only [B8 hlt,AA,hlp1,hlp2,hou.BG,go_sem])|fail))
   exact this
end Go.Ab
namespace Go.Ab
open Go.Proofs
theorem Gp.part {σ0 τ:AF} {l m r:List Ow} (h:Gp σ0 l τ) (hp:l.Perm (m++r)):Gp σ0 m τ:=by
 have:=h.perm hp
 exact ⟨fun x hx=>this.1 x (OQ _ hx),(List.pairwise_append.1 this.2).1⟩
theorem Xp {n:Nat}:∀ {l:List DE},(∀d∈l,d.cons.length≤n)→(I8 l).length≤l.length * n
 |[],_=>by simp [I8]
 |d::l,h=>by
  have h1:=Xp (l:=l) (fun x hx=>h x (Ao _ hx))
  have h2:=h d (Ai ..)
  simp only [I8,MD,AT,AA,A5] at h1 ⊢
  rw [Jb];omega
theorem gR (ps:List DE) (d:DE) (i:Nat) (hd:ps[i]?=some d) (hl:ps.length≤1000):jO ps (Ct (ps.take i)++[(d.name,d.vars.length)]) d.vars:=by
 have hi:=(AR.1 hd).1
 have hh:Ct (ps.take i)++[(d.name,d.vars.length)]=Ct (ps.take (i+1)):=by
  rw [Am hd,Ct,Ct,CR];rfl
 rw [hh]
 have hlen:(Ct (ps.take (i+1))).length=i+1:=by rw [Ct,AA,Ae];omega
 refine ⟨fun k x hx=>?_,fun x hx=>?_,by omega⟩
 · rw [Ct,Ad,BM] at hx
   split at hx
   · obtain ⟨d',h1,h2⟩:=AE.1 hx
     exact ⟨d',h1,by rw [← h2]⟩
   · cases hx
 · rw [hlen,show i+1 - 1=i by omega,Ct,Ad,BM,if_pos (by omega),hd] at hx
   cases hx;rfl
theorem dE (p:Pg) (σ:AF) (h:∀d∈p.data,HT d):AK Tryz.prog 23 [pgA p] σ (fun v σ'=>v=TT (Jz p)∧σ'=σ):=by
 have hval:=Zp p σ h
 refine gT (by simp) ?_
 rw [Bf]
 unfold Jz
 cases hvb:Cu p with
 |false=>
  rw [hvb] at hval
  obtain ⟨ds,fs⟩:=p
  simp only [pgA,Pg.enc,AH,AM] at hval ⊢
  (repeat' (first|refine Run.ct rfl ?_|((first|refine Run.reg mixed ?_|refine Run.AD ?_|(refine Run.A1 Ii (σ2:=σ) (AF.le_refl _) ?_)|refine AI.det (hval) ?_)<;>try simp -implicitDefEqProofs only [go_sem])|fail))
  rfl
 |true=>
 rw [hvb] at hval
 obtain ⟨hpl,hps⟩:=P6 hvb h
 obtain ⟨ps,fs⟩:=p
 simp only [pgA,Pg.enc,AH,AM] at hval hpl hps ⊢
 (repeat' (first|refine Run.ct rfl ?_|((first|refine Run.reg mixed ?_|refine Run.AD ?_|refine AI.det (hval) ?_)<;>try simp -implicitDefEqProofs only [AA,go_sem])|fail))
 generalize hQ:(fun (v:AV) (σ':AF)=>v=TT (match DN [] ps with| .error (e,i)=>.error (e,-1,(i:Int))| .ok l=>.ok l)∧σ'=σ)=Q
 have herr:∀(e:Int) (i:Nat),DN [] ps= .error (e,i)→Q (.tup [.d (.sl []),.agg [.d (.int .i64 e),.d (.int .i64 (-1)),.d (.int .i64 i)]]) σ:=fun e i hd=>by
  rw [← hQ,hd];exact ⟨rfl,rfl⟩
 have hok:∀(l:List Dat),DN [] ps= .ok l→Q (.tup [.d (.sl (l.map Dat.enc)),.agg [.d (.int .i64 0),.d (.int .i64 0),.d (.int .i64 0)]]) σ:=fun l hd=>by
  rw [← hQ,hd];exact ⟨rfl,rfl⟩
 clear hQ
 refine Run.Ay ?_
 have hown0:Gp σ [⟨9,1,[],.AU⟩,⟨122,3,[],.AU⟩,⟨9,1,[],.AU⟩] σ:=by
  have h0:Gp σ [] σ:=⟨fun x hx=>(by cases hx),List.Pairwise.nil⟩
  exact ((h0.nil (AF.le_refl _) _ _).nil (AF.le_refl _) _ _).nil (AF.le_refl _) _ _
 refine Run.BB ((fun (a1:AV) (a3:AV)=>fun (y:Nat×List Dat×AV×AV×AV×AF)=>put 1 a1 (put 3 a3 (put 4 (y.2.2.1) (put 5 (y.2.2.2.1) (put 6 (y.2.2.2.2.1) (put 7 (.d (.int .i64 y.1)) U)))))) _ _) (fun _=>BA 1 [.d (.sl (ps.map DE.enc)),.d (.sl (fs.map FE.enc))] (BA 3 [.d (.int .i64 0),.d (.int .i64 0),.d (.int .i64 0)] E)) (fun y=>y.2.2.2.2.2)
  (fun y=>y.1≤ps.length∧DN [] (ps.take y.1)= .ok y.2.1∧Gp σ [⟨9,1,(((Ct (ps.take y.1)).map (·.1)).map Ak),y.2.2.2.1⟩,⟨122,3,y.2.1.map Dat.enc,y.2.2.1⟩,⟨9,1,(I8 (ps.take y.1)).map Ak,y.2.2.2.2.1⟩] y.2.2.2.2.2)
  (fun y=>ps.length - y.1) ?_ (0,[],.AU,.AU,.AU,σ) ⟨by simp,rfl,hown0⟩
 rintro ⟨i,dl,outv,nv,usedv,τ⟩ ⟨hi,hgo,hown⟩ ih
 simp only at hi hgo hown
 have hn:=hown.head
 have hout:=hown.tail.head
 have hus:=hown.tail.tail.head
 simp only at hn hout hus
 obtain ⟨f1,f2,f3,f4,f5⟩:=JM hgo
 have hlen:dl.length=i:=by rw [f3,Ae];omega
 by_cases hlt:i < ps.length
 · obtain ⟨d,hd⟩:=Aw hlt
   have he:=Aq (enc:=DE.enc) hd
   have hw1:=A7 (show i+1≤9000000000000000000 by omega)
   obtain ⟨hc1,hc2⟩:=hps d (AS hd)
   have hhd:=gR ps d i hd (by omega)
   have hul:(I8 (ps.take i)).length≤100000:=by
    have:=Xp (n:=1000) (l:=ps.take i) (fun d hd=>(hps d (Bi hd)).1)
    rw [Ae] at this
    have:min i ps.length * 1000≤12 * 1000:=BN _ (by omega)
    omega
   have hall:DN [] ps=(DN (ps.take i) (d::ps.drop (i+1))).map (dl++·):=by
    conv=>lhs;rw [← A4 i ps,Bc hd]
    exact MV _ hgo
   have hsn:DN [] (ps.take (i+1))=(DN (ps.take i) [d]).map (dl++·):=by
    rw [Am hd];exact MV _ hgo
   rw [DN,Nl] at hall hsn
   have hheads:(Ct (ps.take (i+1))).map (·.1)=(Ct (ps.take i)).map (·.1)++[d.name]:=by
    rw [Am hd];simp [Ct]
   have huse:I8 (ps.take (i+1))=I8 (ps.take i)++d.cons.map (·.name):=by
    rw [Am hd];simp [I8]
   have hfi:=Ov ((Ct (ps.take i)).map (·.1)) d.name nv hn.plain τ
   have hin:(Cd ((Ct (ps.take i)).map (·.1)) d.name).isSome=((Ct (ps.take i)).map (·.1)).contains d.name:=G1 _ _
   have htw:=L9 d.vars τ
   have hhl:((Ct (ps.take i)).map (·.1)).length=i:=by simp [Ct];omega
   obtain ⟨dn,dvs',dcs⟩:=d
   simp only [DE.enc] at he hall hsn hheads huse hfi hin hhd hc1 hc2 htw
   rw [← hin] at hall hsn
   simp only [Ae,CT hi] at hall
   cases hix:Cd ((Ct (ps.take i)).map (·.1)) dn with
   |some q=>
    rw [hix] at hfi hall
    simp only [Br,J8,if_true,CU] at hall
    have hxe:=herr 4 i hall
    have hge:decide ((0:Int)≤(q:Int))=true:=by simp
    simp only [Ee] at hfi
    (repeat' (first|refine Run.ct rfl ?_|((first|refine Run.reg mixed ?_|refine Run.AD ?_|(refine AI.mk (by simp only [BT,Cw,hn.BF,Az,BD];rfl) hfi ?_;rintro _ _ ⟨rfl,rfl⟩)|(refine Run.A1 Ii (σ2:=σ) hn.le ?_))<;>try simp -implicitDefEqProofs only [A8 hlt,he,hge,AA,hn.BG,hout.BG,hus.BG,go_sem])|fail))
    exact hxe
   |none=>
   rw [hix] at hfi hall hsn
   simp only [Ee] at hfi
   simp only [CD,DW] at hall hsn
   have hge:decide ((0:Int)≤-1)=false:=by decide
   cases htb:Bo dvs' with
   |true=>
    rw [htb] at htw hall
    simp only [if_true,CU] at hall
    have hxe:=herr 4 i hall
    (repeat' (first|refine Run.ct rfl ?_|((first|refine Run.reg mixed ?_|refine Run.AD ?_|(refine AI.mk (by simp only [BT,Cw,hn.BF,Az,BD];rfl) hfi ?_;rintro _ τ ⟨rfl,rfl⟩)|(refine Run.A1 Ii (σ2:=σ) hn.le ?_)|refine AI.det (htw) ?_)<;>try simp -implicitDefEqProofs only [A8 hlt,he,hge,AA,hn.BG,hout.BG,hus.BG,go_sem])|fail))
    exact hxe
   |false=>
   rw [htb] at htw hall hsn
   simp only [AZ,if_false] at hall hsn
   (repeat' (first|refine Run.ct rfl ?_|((first|refine Run.reg mixed ?_|refine Run.AD ?_|(refine AI.mk (by simp only [BT,Cw,hn.BF,Az,BD];rfl) hfi ?_;rintro _ τ ⟨rfl,rfl⟩)|(refine Dh.iL (cx:=Dy) hown rfl (by simp) (by rw [AA,hhl];simp;omega) (by decide) (fun v2 τ2 ho2 hbk=>?_))|refine AI.det (htw) ?_)<;>try simp -implicitDefEqProofs only [A8 hlt,he,hge,AA,hn.BG,hout.BG,hus.BG,go_sem])|fail))
   have hn2:=ho2.head
   simp only at hn2
   simp only [hn2.BG,AZ,if_false]
   have hnp:v2.plain= .d (.sl (((Ct (ps.take i)++[(dn,dvs'.length)]).map (·.1)).map Ak)):=by
    rw [hn2.plain];simp [Ak]
   have hou2:Gp σ [⟨9,1,(I8 (ps.take i)).map Ak,usedv⟩,⟨9,1,((Ct (ps.take i)).map (·.1)).map Ak++[[.str dn]],v2⟩,⟨122,3,dl.map Dat.enc,outv⟩] τ2:=
    ho2.perm (List.perm_append_comm (l₁:=[_,_]) (l₂:=[_]))
   refine dD Q _ ps fs (Ct (ps.take i)++[(dn,dvs'.length)]) dn dvs' dcs hhd i hc1 hc2 σ τ2 outv v2 usedv (.d (.str dn)) (.d (.int .i64 dvs'.length)) ⟨rfl,rfl⟩ (I8 (ps.take i)) hul _ hou2 hn2.le hnp hn2.BF (fun k=>⟨hn2.BG k,hout.BG k⟩) (fun e he'=>?_) (fun us usedv' consv' τ3 hts ho3 hle3=>?_)
   · rw [he'] at hall
     exact herr e i hall
   · rw [hts] at hsn
     simp only [DN,CU] at hsn
     have ho4:Gp σ [⟨122,3,dl.map Dat.enc,outv⟩,⟨9,1,(I8 (ps.take i)++dcs.map (·.name)).map Ak,usedv'⟩,⟨124,2,us.map Con.enc,consv'⟩,⟨9,1,((Ct (ps.take i)).map (·.1)).map Ak++[[.str dn]],v2⟩] τ3:=
      ho3.perm (List.perm_append_comm (l₁:=[_,_,_]) (l₂:=[_]))
     have hu3:=ho3.head
     have hc3:=ho3.tail.head
     simp only at hu3 hc3
     (repeat' (first|refine Run.ct rfl ?_|((first|refine Run.reg mixed ?_|refine Run.AD ?_|(refine Dh.iL (cx:=Dy) ho4 rfl (by simp) (by simp [hlen];omega) (by decide) (fun v5 τ5 ho5 hbk5=>?_)))<;>try simp -implicitDefEqProofs only [hw1,hc3.cell,hc3.cells,hc3.dv,AA,hn2.BG,hout.BG,hu3.BG,go_sem])|fail))
     have ho6:=ho5.perm (List.perm_append_comm (l₁:=[_,_]) (l₂:=[_,_]))
     have h5:=ho5.head
     simp only at h5
     exact ih (i+1,dl++[(⟨dn,dvs'.length,us⟩:Dat)],v5,v2,usedv',τ5) ⟨by simp only;omega,hsn,by
      have:=ho6.tail
      simp only [hheads,huse]
      simpa [Dat.enc,Ak] using this⟩ (by simp only;omega)
 · rw [AG (by omega)] at hgo
   have hfin:=hok dl hgo
   (repeat' (first|refine Run.ct rfl ?_|((first|refine Run.reg mixed ?_|refine Run.AD ?_|(refine Run.A1 Ii (σ2:=σ) hn.le ?_))<;>try simp -implicitDefEqProofs only [B8 hlt,AA,hn.BG,hout.BG,hus.BG,hout.BF,go_sem])|fail))
   simp -implicitDefEqProofs only [hout.plain,hout.BF,go_sem]
   exact hfin
end Go.Ab
namespace Go.Ab
open Go.Proofs
def wkB (ps:List DE) (fs:List FE) (dt:List Dat) (n:Int) (uv:AV):List AV:=[.d (.sl (ps.map DE.enc)),.d (.sl (fs.map FE.enc)),.d (.sl (dt.map Dat.enc)),.d (.int .i64 n),uv]
theorem Ox (ps:List DE) (fs:List FE) (dt:List Dat) (n:Int) (uv:AV) (j:Nat) (s:Str) (σ:AF) (hfl:fs.length≤1000) (hb:σ.blk j=some (wkB ps fs dt n uv)):
 AK Tryz.prog 37 [.gp j 0,.d (.str s)] σ (fun v σ'=>v= .d (.int .i64 (Ee (Cd (Bm fs) s)))∧σ'=σ):=by
 refine Og (by simp) ?_
 rw [BR,← K3]
 unfold wkB at hb
 (repeat' (first|refine Run.ct rfl ?_|((first|refine Run.reg mixed ?_|refine Run.AD ?_)<;>try simp -implicitDefEqProofs only [AA,hb,go_sem])|fail))
 refine Run.Ay ?_
 refine Run.BB ((fun (a0:AV) (a1:AV)=>fun (i:Nat)=>put 0 a0 (put 1 a1 (put 5 (.d (.int .i64 i)) U))) _ _) (fun _=>E) (fun _=>σ) (fun i=>i≤fs.length∧∀x∈(Bm fs).take i,(x==s)=false) (fun i=>fs.length - i) ?_ 0 ⟨by simp,by simp⟩
 rintro i ⟨hi,hno⟩ ih
 by_cases hlt:i < fs.length
 · obtain ⟨f,hf⟩:=Aw hlt
   have he:=Aq (enc:=FE.enc) hf
   have hx:(Bm fs)[i]?=some f.name:=by rw [Bm,Ad,hf];rfl
   obtain ⟨nm,fps,⟨o,n',u,ns,ks,al⟩⟩:=f
   simp only [FE.enc,Ex.A3] at he hx
   cases hp:(nm==s) with
   |true=>
    (repeat' (first|refine Run.ct rfl ?_|((first|refine Run.reg mixed ?_|refine Run.AD ?_|refine Run.A1 GX (AF.le_refl _) ?_)<;>try simp -implicitDefEqProofs only [A8 hlt,he,hb,BS,hp,AA,go_sem])|fail))
    rw [D6 (p:=fun x=>x==s) hno hx hp];rfl
   |false=>
    have hw1:=A7 (show i+1≤9000000000000000000 by omega)
    (repeat' (first|refine Run.ct rfl ?_|((first|refine Run.reg mixed ?_|refine Run.AD ?_)<;>try simp -implicitDefEqProofs only [A8 hlt,he,hb,hw1,BS,hp,AA,go_sem])|fail))
    exact ih (i+1) ⟨by omega,Eg (p:=fun x=>x==s) hno hx hp⟩ (by omega)
 · (repeat' (first|refine Run.ct rfl ?_|((first|refine Run.reg mixed ?_|refine Run.AD ?_|refine Run.A1 GX (AF.le_refl _) ?_)<;>try simp -implicitDefEqProofs only [B8 hlt,hb,AA,go_sem])|fail))
   rw [AG (by rw [Bm,AA];omega)] at hno
   rw [D7 (p:=fun x=>x==s) hno];rfl
theorem Cl.form {σ τ:AF} {e s:Nat} {rows:List (List DV)} {v:AV} (h:Cl σ e s rows v τ):(v= .AU∧rows=[])∨∃t,v= .own t e s rows:=by
 obtain ⟨σ1,ha,_⟩:=h.app
 unfold Nw at ha
 split at ha
 · cases ha;exact .inl ⟨rfl,rfl⟩
 · split at ha
   · rename_i hc
     cases ha
     obtain ⟨rfl,rfl,_⟩:=hc
     exact .inr ⟨_,rfl⟩
   · cases ha
 · cases ha
theorem nK {xs:List (Nat×Nat)} (h:exB xs=true) (q:Nat):(xs.map (·.2)).any (fun c=>c==q)=xs.contains (Cs xs,q):=by
 cases xs with
 |nil=>rfl
 |cons x l=>
  simp only [exB,AN,Aj,beq_iff_eq] at h
  rw [Af,Aa]
  simp only [List.any_map,List.any_eq_true,Function.comp,beq_iff_eq,Cs]
  constructor
  · rintro ⟨y,hy,rfl⟩
    have:=h.1 y hy
    rw [← this];exact hy
  · intro hm
    exact ⟨_,hm,rfl⟩
theorem kJ (xs:List (Nat×Nat)) (hne:xs≠[]) (d k:Nat):(exB xs&&(d==Cs xs)&& !((xs.map (·.2)).any (fun c=>c==k)))=exB (xs++[(d,k)]):=by
 rw [ZT hne]
 cases he:exB xs with
 |false=>simp
 |true=>
  rw [nK he]
  by_cases hd:d=Cs xs
  · simp [hd]
  · have h1:(d==Cs xs)=false:=by simpa using hd
    have h2:(d != Cs xs)=true:=by simpa using hd
    rw [h1,h2];rfl
theorem gF {dt:List Dat} {xs:List (Nat×Nat)} (hne:xs≠[]):VD dt xs=(exB xs&&decide (xs.length=GF dt (Cs xs))):=by
 cases xs with
 |nil=>exact absurd rfl hne
 |cons x l=>rfl
def ZW (xs:List (Nat×Nat)):Int:=match xs with|[]=>-1|x::_=>x.1
theorem kN {xs:List (Nat×Nat)} (h:xs≠[]) (y:Nat×Nat):ZW (xs++[y])=ZW xs:=by
 cases xs with
 |nil=>exact absurd rfl h
 |cons x l=>rfl
theorem kM {xs:List (Nat×Nat)} (h:xs≠[]):ZW xs=Cs xs:=by
 cases xs with
 |nil=>exact absurd rfl h
 |cons x l=>rfl
set_option maxHeartbeats 4000000 in
theorem dF (Q:AV→AF→Prop) (rest:List CI) (j:Nat) (alv:AV) (i:Nat) (ys:List Nat) (sv:AV) (σ τ:AF) (ho:Cl σ 3 1 (ys.map JY) sv τ) (f d c:Nat) (s0:Bool) (hlen:ys.length≤1000000) (hs0:s0=true→d=f) (halp:∀k,alv.BG k=false)
 (hfin:Run De Q rest (put 0 (.gp j 0) (put 1 alv (put 5 sv (put 6 (.d (.int .i64 f)) (put 7 (.d (.bool (s0&& !(ys.any (fun q=>q==c))))) (put 8 (.d (.int .i64 i)) (put 9 (.d (.int .i64 d)) (put 10 (.d (.int .i64 c)) (put 12 (.d (.int .i64 ys.length)) (put 73 (.d (.bool false)) U)))))))))) E τ):
 Run De Q (.code (.loop Jt)::.blk 2::rest) (put 0 (.gp j 0) (put 1 alv (put 5 sv (put 6 (.d (.int .i64 f)) (put 7 (.d (.bool s0)) (put 8 (.d (.int .i64 i)) (put 9 (.d (.int .i64 d)) (put 10 (.d (.int .i64 c)) (put 12 (.d (.int .i64 0)) U))))))))) E τ:=by
 refine Run.Ay ?_
 refine Run.BB ((fun (a0:AV) (a1:AV) (a5:AV) (a6:AV) (a8:AV) (a9:AV) (a10:AV)=>fun (q:Nat)=>put 0 a0 (put 1 a1 (put 5 a5 (put 6 a6 (put 7 (.d (.bool (s0&& !((ys.take q).any (fun q=>q==c))))) (put 8 a8 (put 9 a9 (put 10 a10 (put 12 (.d (.int .i64 q)) U))))))))) _ _ _ _ _ _ _) (fun _=>E) (fun _=>τ) (fun q=>q≤ys.length) (fun q=>ys.length - q) ?_ 0 (by simp)|>(fun h=>by simpa using h)
 rintro q hq ih
 rcases ho.form with ⟨rfl,hr⟩|⟨tk,rfl⟩
 · have:ys=[]:=by simpa using hr
   subst this
   have hq0:q=0:=by simpa using hq
   subst hq0
   have h00:decide ((0:Int) < 0)=false:=by decide
   clear ih
   (repeat' (first|refine Run.ct rfl ?_|((first|refine Run.reg mixed ?_|refine Run.AD ?_)<;>try simp -implicitDefEqProofs only [List.take_nil,List.any_nil,Eb,Az,h00,halp,go_sem])|(refine ⟨fun h=>?_,fun h=>?_⟩<;>first|(cases h;done)|try simp only [h])|fail))
   simpa using hfin
 by_cases hlt:q < ys.length
 · obtain ⟨y,hy⟩:=Aw hlt
   have hw1:=A7 (show q+1≤9000000000000000000 by omega)
   have hi1:=ih (q+1) (by omega) (by omega)
   simp only at hi1
   rw [Am hy,List.any_append,IP,List.any_nil,Gg] at hi1
   have hey:=Aq (enc:=JY) hy
   rw [V6] at hey
   clear ih
   cases hb:(s0&& !((ys.take q).any (fun q=>q==c))) with
   |false=>
    have hb2:(s0&& !((ys.take q).any (fun q=>q==c)||y==c))=false:=by
     rw [Bool.not_or,← Bool.and_assoc,hb,B2]
    rw [hb2] at hi1
    (repeat' (first|refine Run.ct rfl ?_|((first|refine Run.reg mixed ?_|refine Run.AD ?_)<;>try simp -implicitDefEqProofs only [A8 hlt,AA,hw1,hb,halp,go_sem])|fail))
    exact hi1
   |true=>
    have hs:s0=true:=by
     cases s0 with
     |true=>rfl
     |false=>simp at hb
    have hdf:=hs0 hs
    subst hdf
    have hb2:(s0&& !((ys.take q).any (fun q=>q==c)||y==c))=!(y==c):=by
     rw [Bool.not_or,← Bool.and_assoc,hb,BD]
    rw [hb2] at hi1
    have hdd:((d:Int)==(d:Int))=true:=by simp
    have hyc:((y:Int)==(c:Int))=(y==c):=rW y c
    (repeat' (first|refine Run.ct rfl ?_|((first|refine Run.reg mixed ?_|refine Run.AD ?_)<;>try simp -implicitDefEqProofs only [A8 hlt,AA,hw1,hb,halp,hey,hdd,hyc,go_sem])|fail))
    exact hi1
 · have hqe:q=ys.length:=by omega
   subst hqe
   have htk:ys.take ys.length=ys:=List.take_length
   (repeat' (first|refine Run.ct rfl ?_|((first|refine Run.reg mixed ?_|refine Run.AD ?_)<;>try simp -implicitDefEqProofs only [B8 hlt,AA,htk,halp,go_sem])|fail))
   exact hfin
theorem dG (ps:List DE) (fs:List FE) (dt:List Dat) (hdt:RJ dt) (n0:Int) (uv:AV) (j:Nat) (al:List Al) (σ:AF) (hal:al.length≤1000000) (hne0:al≠[]) (hb:σ.blk j=some (wkB ps fs dt n0 uv)):
 AK Tryz.prog 68 [.gp j 0,.d (.sl (al.map Al.enc))] σ (fun v σ'=>v= .d (.int .i64 (Js dt al))∧σ'=σ):=by
 refine S1 (by simp) ?_
 rw [BR]
 unfold wkB at hb
 (repeat' (first|refine Run.ct rfl ?_|((first|refine Run.reg mixed ?_|refine Run.AD ?_)<;>try simp -implicitDefEqProofs only [AA,go_sem])|fail))
 refine Run.Ay ?_
 refine Run.BB ((fun (a0:AV) (a1:AV)=>fun (y:Nat×List (Nat×Nat)×AV×AF)=>put 0 a0 (put 1 a1 (put 5 (y.2.2.1) (put 6 (.d (.int .i64 (ZW y.2.1))) (put 7 (.d (.bool (exB y.2.1))) (put 8 (.d (.int .i64 y.1)) U)))))) _ _) (fun _=>E) (fun y=>y.2.2.2)
  (fun y=>y.1≤al.length∧y.2.1.length=y.1∧C2 dt (al.take y.1)= .ok y.2.1∧Cl σ 3 1 ((y.2.1.map (·.2)).map JY) y.2.2.1 y.2.2.2) (fun y=>al.length - y.1) ?_ (0,[],.AU,σ) ⟨by simp,rfl,rfl,Cl.nil _ _ _⟩
 rintro ⟨i,xs,sv,τ⟩ ⟨hi,hlx,hok,ho⟩ ih
 simp only at hi hlx hok ho
 have hb1:=ho.le.blk j _ hb
 by_cases hlt:i < al.length
 · obtain ⟨a,ha⟩:=Aw hlt
   have he:=Aq (enc:=Al.enc) ha
   have hw1:=A7 (show i+1≤9000000000000000000 by omega)
   have hall:C2 dt al=(C2 dt (a::al.drop (i+1))).map (xs++·):=by
    conv=>lhs;rw [← A4 i al,Bc ha]
    exact K6 dt _ hok
   have hsn:C2 dt (al.take (i+1))=(C2 dt [a]).map (xs++·):=by
    rw [Am ha];exact K6 dt _ hok
   obtain ⟨c,vs,o,n,u,ns,ks,aa⟩:=a
   rw [C2] at hall hsn
   simp only [Al.A3] at he
   have hctr:=L8 dt hdt c τ
   rw [dsA] at hctr
   have herr:∀e:Int,C2 dt al= .error e→Js dt al=e:=fun e h=>by rw [Js,h]
   cases hc:Ib dt c with
   |none=>
    rw [hc] at hctr hall
    simp only [SP] at hctr
    (repeat' (first|refine Run.ct rfl ?_|((first|refine Run.reg mixed ?_|refine Run.AD ?_|(refine Run.A1 D8 ho.le ?_)|refine AI.det (hctr) ?_)<;>try simp -implicitDefEqProofs only [A8 hlt,he,hb1,AA,go_sem])|fail))
    rw [herr 3 (by rw [hall];rfl)]
   |some x=>
   rw [hc] at hctr hall hsn
   simp only [SP] at hctr hall hsn
   obtain ⟨d,cc,h1,h2,_⟩:=K1 hc
   have har:=NG (s:=[]) h1 h2
   have hd:=NH h1
   have hcc:=ND h2
   rw [har] at hall hsn
   by_cases hA:vs.length≠cc.args.length
   · rw [if_pos hA] at hall
     have hA':((vs.length:Int) != (cc.args.length:Int))=true:=by rw [Ta];simpa using hA
     (repeat' (first|refine Run.ct rfl ?_|((first|refine Run.reg mixed ?_|refine Run.AD ?_|(refine Run.A1 D8 ho.le ?_)|refine AI.det (hctr) ?_)<;>try simp -implicitDefEqProofs only [A8 hlt,he,hb1,hd,hcc,AA,EF,hA',go_sem])|fail))
     rw [herr 5 (by rw [hall];rfl)]
   rw [if_neg hA] at hall hsn
   have hA':((vs.length:Int) != (cc.args.length:Int))=false:=by rw [Ta];simpa using hA
   have hrep:=L9 vs τ
   cases hB:Bo vs with
   |true=>
    rw [hB] at hrep hall
    rw [if_pos rfl] at hall
    (repeat' (first|refine Run.ct rfl ?_|((first|refine Run.reg mixed ?_|refine Run.AD ?_|(refine Run.A1 D8 ho.le ?_)|refine AI.det (hctr) ?_|refine AI.det (hrep) ?_)<;>try simp -implicitDefEqProofs only [A8 hlt,he,hb1,hd,hcc,AA,EF,hA',go_sem])|fail))
    rw [herr 4 (by rw [hall];rfl)]
   |false=>
   rw [hB] at hrep hsn
   rw [if_neg (by simp)] at hsn
   simp only [C2,CU] at hsn
   rw [show xs++[x]=xs++[(x.1,x.2)] from rfl] at hsn
   have hgo:∀(sv':AV) (τ':AF),Cl σ 3 1 (((xs++[(x.1,x.2)]).map (·.2)).map JY) sv' τ'→_:=fun sv' τ' h=>ih (i+1,xs++[(x.1,x.2)],sv',τ') ⟨by simp only;omega,by simp [hlx],hsn,h⟩ (by simp only;omega)
   simp only at hgo
   clear hall hsn ih herr
   have hL0:=fun Q rest f s0 (hs0:s0=true→x.1=f)=>dF Q rest j (.d (.sl (al.map Al.enc))) i (xs.map (·.2)) sv σ τ ho f x.1 x.2 s0 (by rw [AA];omega) hs0 (fun _=>rfl)
   by_cases hx0:xs=[]
   · subst hx0
     have hm1:decide ((-1:Int) < 0)=true:=by decide
     have hself:((x.1:Int)==(x.1:Int))=true:=by simp
     (repeat' (first|refine Run.ct rfl ?_|((first|refine Run.reg mixed ?_|refine Run.AD ?_|refine AI.det (hctr) ?_|refine AI.det (hrep) ?_)<;>try simp -implicitDefEqProofs only [A8 hlt,he,hb1,hd,hcc,AA,EF,hA',ZW,exB,hm1,hself,ho.BG,go_sem])|fail))
     have h1:exB ([]++[(x.1,x.2)])=true:=by simp [exB]
     refine hL0 _ _ x.1 true (fun _=>rfl) ?_
     simp only [AM,List.any_nil,Eb,Az]
     (repeat' (first|refine Run.ct rfl ?_|((first|refine Run.reg mixed ?_|refine Run.AD ?_|(refine Dh.own ho rfl (by simp) (by simp) (by decide) (fun v2 τ2 ho2 hbk=>?_)))<;>try simp -implicitDefEqProofs only [hw1,AA,ho.BG,go_sem])|fail))
     have hg:=hgo v2 τ2 (by simpa [JY] using ho2)
     rw [h1,show ZW ([]++[(x.1,x.2)])=x.1 from rfl] at hg
     exact hg
   · have hf0:decide ((Cs xs:Int) < 0)=false:=decide_eq_false (by omega)
     have hdd:((x.1:Int)==(Cs xs:Int))=(x.1==Cs xs):=rW _ _
     have hsl:=Et.2 hx0
     have hex:=kJ xs hx0 x.1 x.2
     rw [kN hx0] at hgo
     have hfi:ZW xs=(Cs xs:Int):=kM hx0
     rw [hfi,← hex] at hgo
     cases hxb:exB xs with
     |true=>
      rw [hxb,BD] at hgo
      (repeat' (first|refine Run.ct rfl ?_|((first|refine Run.reg mixed ?_|refine Run.AD ?_|refine AI.det (hctr) ?_|refine AI.det (hrep) ?_)<;>try simp -implicitDefEqProofs only [A8 hlt,he,hb1,hd,hcc,AA,EF,hA',hfi,hf0,hdd,hxb,ho.BG,go_sem])|fail))
      refine hL0 _ _ (Cs xs) (x.1==Cs xs) (fun h=>by simpa using h) ?_
      (repeat' (first|refine Run.ct rfl ?_|((first|refine Run.reg mixed ?_|refine Run.AD ?_|(refine Dh.own ho rfl (by simp) (by simp;omega) (by decide) (fun v2 τ2 ho2 hbk=>?_)))<;>try simp -implicitDefEqProofs only [hw1,AA,ho.BG,go_sem])|fail))
      exact hgo v2 τ2 (by simpa [JY] using ho2)
     |false=>
      rw [hxb,B2,B2] at hgo
      (repeat' (first|refine Run.ct rfl ?_|((first|refine Run.reg mixed ?_|refine Run.AD ?_|refine AI.det (hctr) ?_|refine AI.det (hrep) ?_)<;>try simp -implicitDefEqProofs only [A8 hlt,he,hb1,hd,hcc,AA,EF,hA',hfi,hf0,hdd,hxb,ho.BG,go_sem])|fail))
      refine hL0 _ _ (Cs xs) false (fun h=>by cases h) ?_
      rw [B2]
      (repeat' (first|refine Run.ct rfl ?_|((first|refine Run.reg mixed ?_|refine Run.AD ?_|(refine Dh.own ho rfl (by simp) (by simp;omega) (by decide) (fun v2 τ2 ho2 hbk=>?_)))<;>try simp -implicitDefEqProofs only [hw1,AA,ho.BG,go_sem])|fail))
      exact hgo v2 τ2 (by simpa [JY] using ho2)
 · rw [AG (by omega)] at hok
   have hne:xs≠[]:=by
    intro e;subst e;simp at hlx
    have:=Et.2 hne0;omega
   have hres:Js dt al=if exB xs&&decide (xs.length=GF dt (Cs xs)) then 0 else 7:=by rw [Js,hok];simp only;rw [gF hne]
   have hfi:ZW xs=(Cs xs:Int):=kM hne
   have hial:i=al.length:=by omega
   obtain ⟨hbd,hfd⟩:(∀x∈xs,x.2 < GF dt x.1)∧Cs xs < dt.length:=by
    refine ⟨PQ hok,?_⟩
    cases xs with
    |nil=>exact absurd rfl hne
    |cons x l=>
     have:=PQ hok x (Ai ..)
     simp only [Cs]
     unfold GF at this
     cases hd:dt[x.1]? with
     |none=>rw [hd] at this;simp at this
     |some d=>exact (AR.1 hd).1
   obtain ⟨d,hd⟩:=Aw hfd
   have hed:=NH hd
   have hnc:GF dt (Cs xs)=d.cons.length:=V4 hd
   have hne2:((al.length:Int) != (d.cons.length:Int))=!decide (xs.length=GF dt (Cs xs)):=by
    rw [Ta,hnc,hlx,hial,Af];simp
   cases hxb:exB xs with
   |false=>
    rw [hxb,B2] at hres
    (repeat' (first|refine Run.ct rfl ?_|((first|refine Run.reg mixed ?_|refine Run.AD ?_|(refine Run.A1 D8 ho.le ?_))<;>try simp -implicitDefEqProofs only [B8 hlt,hxb,AA,go_sem])|fail))
    rw [hres];rfl
   |true=>
    rw [hxb,BD] at hres
    cases hde:decide (xs.length=GF dt (Cs xs)) with
    |true=>
     rw [hde] at hne2 hres
     (repeat' (first|refine Run.ct rfl ?_|((first|refine Run.reg mixed ?_|refine Run.AD ?_|(refine Run.A1 D8 ho.le ?_))<;>try simp -implicitDefEqProofs only [B8 hlt,hxb,hb1,hfi,hed,hne2,AA,go_sem])|fail))
     rw [hres];rfl
    |false=>
     rw [hde] at hne2 hres
     (repeat' (first|refine Run.ct rfl ?_|((first|refine Run.reg mixed ?_|refine Run.AD ?_|(refine Run.A1 D8 ho.le ?_))<;>try simp -implicitDefEqProofs only [B8 hlt,hxb,hb1,hfi,hed,hne2,AA,go_sem])|fail))
     rw [hres];rfl
end Go.Ab
