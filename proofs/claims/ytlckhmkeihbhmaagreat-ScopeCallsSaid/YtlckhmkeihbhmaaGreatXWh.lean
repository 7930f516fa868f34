/- Reference scope: Data, the constructors of a declaration. Reference scope: Data. Reference scope: functions and alternatives. Conditions: none. -/
import Derived.Test.YtlckhmkeihbhmaaGreatXWa
set_option linter.unusedSimpArgs false
set_option linter.unusedVariables false
set_option maxRecDepth 4000
set_option maxHeartbeats 8000000
open List renaming take_append_drop→A4,mem_of_getElem?→AT,all_cons→BU,all_nil→Cr,length_map→AA,map_append→Er,map_cons→AI,map_nil→AO,append_assoc→Ag,take_of_length_le→AH,mem_append_left→OF,mem_cons_of_mem→B8,mem_cons_self→BT,flatMap_cons→MB,length_append→AS,length_cons→A5,getElem?_eq_some_iff→AR,length_take→Aj,getElem?_map→Ah,getElem?_take→BN,mem_of_mem_take→Bk,all_eq_true→As,contains_iff_mem→Aa,any_cons→KT,length_pos_iff→Et
open Option renaming isSome_some→Bp,isSome_none→CD,map_eq_some_iff→AE
open Bool renaming and_true→Am,true_and→BA,false_eq_true→AZ,true_or→J0,false_or→DP,and_eq_true→AQ,eq_iff_iff→Ac,not_false→C2,or_false→KS,false_and→B1
open Except renaming map→CP
open Nat renaming succ_mul→J2,mul_le_mul_right→BO,min_eq_left→CO
namespace Go.Ab
open Go.Proofs
theorem Oh (l:List Str) (s:Str) (v:AV) (hv:v.plain= .d (.sl (l.map BF))) (σ:AF):AM Tryz.prog 59 [v,.d (.str s)] σ (fun v σ'=>v= .d (.int .i64 (Ee (Ct l s)))∧σ'=σ):=by
 refine AM.plain ?_
 simp only [AV.DM,hv,Gc]
 exact Qj l s σ
theorem aP (Q:AV→AF→Prop) (rest:List CI) (ps:List DE) (fs:List FE) (ds:List (Str×Nat)) (dn:Str) (dvs':List Str) (dcs:List CE) (hh:fX ps ds dvs') (i:Nat) (hcl:dcs.length≤1000) (hsm:∀c∈dcs,PS c∧c.args.length≤1000)
 (σ0 τ:AF) (out nv usedv a9 b9:AV) (h9:a9.BW=true∧b9.BW=true) (ul:List Str) (hul:ul.length≤100000) (lo:List Ow) (hown:F1 σ0 (⟨9,1,ul.map BF,usedv⟩::lo) τ) (hle:σ0.le τ) (hnv:nv.plain= .d (.sl ((ds.map (·.1)).map BF))) (hnl:nv.BZ=true) (hlp:∀k,nv.Ar k=false∧out.Ar k=false)
 (herr:∀e,Ep ds dvs' ul dcs= .error e→Q (.tup [.d (.sl []),.agg [.d (.int .i64 e),.d (.int .i64 (-1)),.d (.int .i64 i)]]) σ0)
 (hfin:∀us usedv' consv' τ',Ep ds dvs' ul dcs= .ok us→F1 σ0 (⟨9,1,(ul++dcs.map (·.name)).map BF,usedv'⟩::⟨124,2,us.map Con.enc,consv'⟩::lo) τ'→σ0.le τ'→Run Dq Q rest
   (put 1 (.lp 1 0) (put 3 (.lp 3 0) (put 4 out (put 5 nv (put 6 usedv' (put 7 (.d (.int .i64 i)) (put 8 (.lp 8 0) (put 9 (.lp 9 0) (put 10 (.d (.int .i64 dcs.length)) (put 58 (.d (.bool false)) U))))))))))
   (BE 1 [.d (.sl (ps.map DE.enc)),.d (.sl (fs.map FE.enc))] (BE 3 [.d (.int .i64 0),.d (.int .i64 0),.d (.int .i64 0)] (BE 8 [.d (.str dn),.d (.sl (dvs'.map BF)),.d (.sl (dcs.map CE.enc))] (BE 9 [a9,b9,consv'] E)))) τ'):
 Run Dq Q (.code (.loop RL)::.blk 2::rest)
  (put 1 (.lp 1 0) (put 3 (.lp 3 0) (put 4 out (put 5 nv (put 6 usedv (put 7 (.d (.int .i64 i)) (put 8 (.lp 8 0) (put 9 (.lp 9 0) (put 10 (.d (.int .i64 0)) U)))))))))
  (BE 1 [.d (.sl (ps.map DE.enc)),.d (.sl (fs.map FE.enc))] (BE 3 [.d (.int .i64 0),.d (.int .i64 0),.d (.int .i64 0)] (BE 8 [.d (.str dn),.d (.sl (dvs'.map BF)),.d (.sl (dcs.map CE.enc))] (BE 9 [a9,b9,.AY] E)))) τ:=by
 have hlp1:=fun k=>(hlp k).1
 have hlp2:=fun k=>(hlp k).2
 refine Run.BD ?_
 refine Run.BG ((fun (a1:AV) (a3:AV) (a4:AV) (a5:AV) (a7:AV) (a8:AV) (a9:AV)=>fun (y:Nat×List Con×AV×AV×AF)=>put 1 a1 (put 3 a3 (put 4 a4 (put 5 a5 (put 6 (y.2.2.1) (put 7 a7 (put 8 a8 (put 9 a9 (put 10 (.d (.int .i64 y.1)) U))))))))) _ _ _ _ _ _ _) (fun y=>BE 1 [.d (.sl (ps.map DE.enc)),.d (.sl (fs.map FE.enc))] (BE 3 [.d (.int .i64 0),.d (.int .i64 0),.d (.int .i64 0)] (BE 8 [.d (.str dn),.d (.sl (dvs'.map BF)),.d (.sl (dcs.map CE.enc))] (BE 9 [a9,b9,y.2.2.2.1] E)))) (fun y=>y.2.2.2.2)
  (fun y=>y.1≤dcs.length∧y.2.1.length=y.1∧Ep ds dvs' ul (dcs.take y.1)= .ok y.2.1∧F1 σ0 (⟨9,1,(ul++(dcs.take y.1).map (·.name)).map BF,y.2.2.1⟩::⟨124,2,y.2.1.map Con.enc,y.2.2.2.1⟩::lo) y.2.2.2.2∧σ0.le y.2.2.2.2) (fun y=>dcs.length - y.1) ?_ (0,[],usedv,.AY,τ) ⟨by simp,rfl,rfl,by simpa using (hown.nil hle 124 2).perm (List.Perm.swap _ _ _),hle⟩
 rintro ⟨k,us,uv,cv,τ1⟩ ⟨hk,hlu,hok,ho,hle1⟩ ih
 simp only at hk hlu hok ho hle1
 have hou:=ho.head
 have hoc:=ho.tail.head
 simp only at hou hoc
 by_cases hlt:k < dcs.length
 · obtain ⟨c,hc⟩:=BC hlt
   have he:=Ay (enc:=CE.enc) hc
   have hw1:=A6 (show k+1≤9000000000000000000 by omega)
   obtain ⟨hall,hnames⟩:=KN ds dvs' (dcs.drop k) hok
   rw [A4,Bb hc] at hall
   obtain ⟨hsn,_⟩:=KN ds dvs' [c] hok
   rw [← Aw hc] at hsn
   obtain ⟨hcsm,hcal⟩:=hsm c (AT hc)
   have hfi:=Oh (ul++(dcs.take k).map (·.name)) c.name uv hou.plain τ1
   have hin:(Ct (ul++(dcs.take k).map (·.name)) c.name).isSome=(ul++(dcs.take k).map (·.name)).contains c.name:=GW _ _
   rw [Ep] at hall hsn
   have hcc:=hc
   obtain ⟨cn,ar⟩:=c
   simp only [CE.enc] at he hin hall hsn hcal hfi
   cases hix:Ct (ul++(dcs.take k).map (·.name)) cn with
   |some q=>
    rw [hix] at hfi hin
    simp only [Bp] at hin
    rw [← hin,if_pos rfl] at hall
    have hxe:=herr 4 hall
    have hge:decide ((0:Int)≤(q:Int))=true:=by simp
    simp only [Ee] at hfi
    (repeat' (first|refine Run.ct rfl ?_|((first|refine Run.reg mixed ?_|refine Run.AD ?_|(refine AJ.mk (by simp only [BU,Cr,hou.BZ,Am,BA];rfl) hfi ?_;rintro _ _ ⟨rfl,rfl⟩)|(refine Run.A1 If (σ2:=σ0) hle1 ?_))<;>try simp -implicitDefEqProofs only [A8 hlt,he,hge,AA,hlp1,hlp2,hou.Ar,go_sem])|fail))
    exact hxe
   |none=>
    rw [hix] at hfi hin
    simp only [CD] at hin
    rw [← hin,if_neg (by simp)] at hall hsn
    have hge:decide ((0:Int)≤-1)=false:=by decide
    simp only [Ee] at hfi
    (repeat' (first|refine Run.ct rfl ?_|((first|refine Run.reg mixed ?_|refine Run.AD ?_|(refine AJ.mk (by simp only [BU,Cr,hou.BZ,Am,BA];rfl) hfi ?_;rintro _ τ1 ⟨rfl,rfl⟩)|(refine Dy.aE (cx:=Dq) ho rfl (by simp) (by simp;omega) (by decide) (fun v2 τ2 ho2 hbk=>?_)))<;>try simp -implicitDefEqProofs only [A8 hlt,he,hge,AA,hlp1,hlp2,hou.Ar,go_sem])|fail))
    have ho2h:=ho2.head
    simp only at ho2h
    simp only [ho2h.Ar,AZ,if_false]
    refine aO Q _ ps fs ds dn dvs' dcs hh cn ar k i hcc hcsm hcal σ0 τ2 out nv v2 a9 b9 cv _ ho2 ho2h.le hnv hnl (fun k=>⟨hlp1 k,hlp2 k,ho2h.Ar k⟩) (fun e he'=>?_) (fun ts av τ3 hts ho3 hle3=>?_)
    · rw [he'] at hall
      exact herr e hall
    · rw [hts] at hsn
      simp only [Ep,CP] at hsn
      have ho3a:=ho3.head
      have ho3c:=(ho3.tail.perm (List.Perm.swap _ _ _))
      simp only at ho3a
      have hoc3:=ho3c.head
      simp only at hoc3
      (repeat' (first|refine Run.ct rfl ?_|((first|refine Run.reg mixed ?_|refine Run.AD ?_|(refine Dy.aE (cx:=Dq) ho3c rfl (by simp) (by simp;omega) (by decide) (fun v4 τ4 ho4 hbk4=>?_)))<;>try simp -implicitDefEqProofs only [hw1,hoc3.cell,hoc3.cells,ho3a.cell,ho3a.dv,AA,hlp1,hlp2,ho2h.Ar,h9.1,h9.2,go_sem])|fail))
      have ho5:=ho4.perm (List.Perm.swap _ _ _)
      have h4h:=ho4.head
      have h5h:=ho5.head
      simp only at h4h h5h
      simp -implicitDefEqProofs only [h4h.cells,h4h.cell,go_sem]
      (repeat' (first|refine Run.ct rfl ?_|((first|refine Run.reg mixed ?_|refine Run.AD ?_)<;>try simp -implicitDefEqProofs only [hw1,h4h.cells,h4h.cell,hlp1,hlp2,h5h.Ar,go_sem])|fail))
      exact ih (k+1,us++[(⟨cn,ts⟩:Con)],v2,v4,τ4) ⟨by simp only;omega,by simp [hlu],hsn,by
       simp only [Aw hcc,Er,AI,AO,← Ag] at ho5 ⊢
       simpa [Con.enc,Ty.Ed,BF] using ho5,h4h.le⟩ (by simp only;omega)
 · rw [AH (by omega)] at hok ho
   have:=hfin us uv cv τ1 hok ho hle1
   have hke:k=dcs.length:=by omega
   subst hke
   (repeat' (first|refine Run.ct rfl ?_|((first|refine Run.reg mixed ?_|refine Run.AD ?_)<;>try simp -implicitDefEqProofs only [Bd hlt,AA,hlp1,hlp2,hou.Ar,go_sem])|fail))
   exact this
end Go.Ab
namespace Go.Ab
open Go.Proofs
theorem F1.part {σ0 τ:AF} {l m r:List Ow} (h:F1 σ0 l τ) (hp:l.Perm (m++r)):F1 σ0 m τ:=by
 have:=h.perm hp
 exact ⟨fun x hx=>this.1 x (OF _ hx),(List.pairwise_append.1 this.2).1⟩
theorem XC {n:Nat}:∀ {l:List DE},(∀d∈l,d.cons.length≤n)→(I3 l).length≤l.length * n
 |[],_=>by simp [I3]
 |d::l,h=>by
  have h1:=XC (l:=l) (fun x hx=>h x (B8 _ hx))
  have h2:=h d (BT ..)
  simp only [I3,MB,AS,AA,A5] at h1 ⊢
  rw [J2];omega
theorem dK (ps:List DE) (d:DE) (i:Nat) (hd:ps[i]?=some d) (hl:ps.length≤1000):fX ps (Cq (ps.take i)++[(d.name,d.vars.length)]) d.vars:=by
 have hi:=(AR.1 hd).1
 have hh:Cq (ps.take i)++[(d.name,d.vars.length)]=Cq (ps.take (i+1)):=by
  rw [Aw hd,Cq,Cq,Er];rfl
 rw [hh]
 have hlen:(Cq (ps.take (i+1))).length=i+1:=by rw [Cq,AA,Aj];omega
 refine ⟨fun k x hx=>?_,fun x hx=>?_,by omega⟩
 · rw [Cq,Ah,BN] at hx
   split at hx
   · obtain ⟨d',h1,h2⟩:=AE.1 hx
     exact ⟨d',h1,by rw [← h2]⟩
   · cases hx
 · rw [hlen,show i+1 - 1=i by omega,Cq,Ah,BN,if_pos (by omega),hd] at hx
   cases hx;rfl
theorem VK (p:Pg) (σ:AF) (h:∀d∈p.data,Gd d):AM Tryz.prog 23 [pgA p] σ (fun v σ'=>v=OV (MU p)∧σ'=σ):=by
 have hval:=Ye p σ h
 refine dL (by simp) ?_
 rw [Bg]
 unfold MU
 cases hvb:EJ p with
 |false=>
  rw [hvb] at hval
  obtain ⟨ds,fs⟩:=p
  simp only [pgA,Pg.enc,AI,AO] at hval ⊢
  (repeat' (first|refine Run.ct rfl ?_|((first|refine Run.reg mixed ?_|refine Run.AD ?_|(refine Run.A1 If (σ2:=σ) (AF.le_refl _) ?_)|refine AJ.det (hval) ?_)<;>try simp -implicitDefEqProofs only [go_sem])|fail))
  rfl
 |true=>
 rw [hvb] at hval
 obtain ⟨hpl,hps⟩:=Me hvb h
 obtain ⟨ps,fs⟩:=p
 simp only [pgA,Pg.enc,AI,AO] at hval hpl hps ⊢
 (repeat' (first|refine Run.ct rfl ?_|((first|refine Run.reg mixed ?_|refine Run.AD ?_|refine AJ.det (hval) ?_)<;>try simp -implicitDefEqProofs only [AA,go_sem])|fail))
 generalize hQ:(fun (v:AV) (σ':AF)=>v=OV (match DJ [] ps with| .error (e,i)=>.error (e,-1,(i:Int))| .ok l=>.ok l)∧σ'=σ)=Q
 have herr:∀(e:Int) (i:Nat),DJ [] ps= .error (e,i)→Q (.tup [.d (.sl []),.agg [.d (.int .i64 e),.d (.int .i64 (-1)),.d (.int .i64 i)]]) σ:=fun e i hd=>by
  rw [← hQ,hd];exact ⟨rfl,rfl⟩
 have hok:∀(l:List Dat),DJ [] ps= .ok l→Q (.tup [.d (.sl (l.map Dat.enc)),.agg [.d (.int .i64 0),.d (.int .i64 0),.d (.int .i64 0)]]) σ:=fun l hd=>by
  rw [← hQ,hd];exact ⟨rfl,rfl⟩
 clear hQ
 refine Run.BD ?_
 have hown0:F1 σ [⟨9,1,[],.AY⟩,⟨122,3,[],.AY⟩,⟨9,1,[],.AY⟩] σ:=by
  have h0:F1 σ [] σ:=⟨fun x hx=>(by cases hx),List.Pairwise.nil⟩
  exact ((h0.nil (AF.le_refl _) _ _).nil (AF.le_refl _) _ _).nil (AF.le_refl _) _ _
 refine Run.BG ((fun (a1:AV) (a3:AV)=>fun (y:Nat×List Dat×AV×AV×AV×AF)=>put 1 a1 (put 3 a3 (put 4 (y.2.2.1) (put 5 (y.2.2.2.1) (put 6 (y.2.2.2.2.1) (put 7 (.d (.int .i64 y.1)) U)))))) _ _) (fun _=>BE 1 [.d (.sl (ps.map DE.enc)),.d (.sl (fs.map FE.enc))] (BE 3 [.d (.int .i64 0),.d (.int .i64 0),.d (.int .i64 0)] E)) (fun y=>y.2.2.2.2.2)
  (fun y=>y.1≤ps.length∧DJ [] (ps.take y.1)= .ok y.2.1∧F1 σ [⟨9,1,(((Cq (ps.take y.1)).map (·.1)).map BF),y.2.2.2.1⟩,⟨122,3,y.2.1.map Dat.enc,y.2.2.1⟩,⟨9,1,(I3 (ps.take y.1)).map BF,y.2.2.2.2.1⟩] y.2.2.2.2.2)
  (fun y=>ps.length - y.1) ?_ (0,[],.AY,.AY,.AY,σ) ⟨by simp,rfl,hown0⟩
 rintro ⟨i,dl,outv,nv,usedv,τ⟩ ⟨hi,hgo,hown⟩ ih
 simp only at hi hgo hown
 have hn:=hown.head
 have hout:=hown.tail.head
 have hus:=hown.tail.tail.head
 simp only at hn hout hus
 obtain ⟨f1,f2,f3,f4,f5⟩:=HY hgo
 have hlen:dl.length=i:=by rw [f3,Aj];omega
 by_cases hlt:i < ps.length
 · obtain ⟨d,hd⟩:=BC hlt
   have he:=Ay (enc:=DE.enc) hd
   have hw1:=A6 (show i+1≤9000000000000000000 by omega)
   obtain ⟨hc1,hc2⟩:=hps d (AT hd)
   have hhd:=dK ps d i hd (by omega)
   have hul:(I3 (ps.take i)).length≤100000:=by
    have:=XC (n:=1000) (l:=ps.take i) (fun d hd=>(hps d (Bk hd)).1)
    rw [Aj] at this
    have:min i ps.length * 1000≤12 * 1000:=BO _ (by omega)
    omega
   have hall:DJ [] ps=(DJ (ps.take i) (d::ps.drop (i+1))).map (dl++·):=by
    conv=>lhs;rw [← A4 i ps,Bb hd]
    exact MT _ hgo
   have hsn:DJ [] (ps.take (i+1))=(DJ (ps.take i) [d]).map (dl++·):=by
    rw [Aw hd];exact MT _ hgo
   rw [DJ,Nd] at hall hsn
   have hheads:(Cq (ps.take (i+1))).map (·.1)=(Cq (ps.take i)).map (·.1)++[d.name]:=by
    rw [Aw hd];simp [Cq]
   have huse:I3 (ps.take (i+1))=I3 (ps.take i)++d.cons.map (·.name):=by
    rw [Aw hd];simp [I3]
   have hfi:=Oh ((Cq (ps.take i)).map (·.1)) d.name nv hn.plain τ
   have hin:(Ct ((Cq (ps.take i)).map (·.1)) d.name).isSome=((Cq (ps.take i)).map (·.1)).contains d.name:=GW _ _
   have htw:=L4 d.vars τ
   have hhl:((Cq (ps.take i)).map (·.1)).length=i:=by simp [Cq];omega
   obtain ⟨dn,dvs',dcs⟩:=d
   simp only [DE.enc] at he hall hsn hheads huse hfi hin hhd hc1 hc2 htw
   rw [← hin] at hall hsn
   simp only [Aj,CO hi] at hall
   cases hix:Ct ((Cq (ps.take i)).map (·.1)) dn with
   |some q=>
    rw [hix] at hfi hall
    simp only [Bp,J0,if_true,CP] at hall
    have hxe:=herr 4 i hall
    have hge:decide ((0:Int)≤(q:Int))=true:=by simp
    simp only [Ee] at hfi
    (repeat' (first|refine Run.ct rfl ?_|((first|refine Run.reg mixed ?_|refine Run.AD ?_|(refine AJ.mk (by simp only [BU,Cr,hn.BZ,Am,BA];rfl) hfi ?_;rintro _ _ ⟨rfl,rfl⟩)|(refine Run.A1 If (σ2:=σ) hn.le ?_))<;>try simp -implicitDefEqProofs only [A8 hlt,he,hge,AA,hn.Ar,hout.Ar,hus.Ar,go_sem])|fail))
    exact hxe
   |none=>
   rw [hix] at hfi hall hsn
   simp only [Ee] at hfi
   simp only [CD,DP] at hall hsn
   have hge:decide ((0:Int)≤-1)=false:=by decide
   cases htb:CC dvs' with
   |true=>
    rw [htb] at htw hall
    simp only [if_true,CP] at hall
    have hxe:=herr 4 i hall
    (repeat' (first|refine Run.ct rfl ?_|((first|refine Run.reg mixed ?_|refine Run.AD ?_|(refine AJ.mk (by simp only [BU,Cr,hn.BZ,Am,BA];rfl) hfi ?_;rintro _ τ ⟨rfl,rfl⟩)|(refine Run.A1 If (σ2:=σ) hn.le ?_)|refine AJ.det (htw) ?_)<;>try simp -implicitDefEqProofs only [A8 hlt,he,hge,AA,hn.Ar,hout.Ar,hus.Ar,go_sem])|fail))
    exact hxe
   |false=>
   rw [htb] at htw hall hsn
   simp only [AZ,if_false] at hall hsn
   (repeat' (first|refine Run.ct rfl ?_|((first|refine Run.reg mixed ?_|refine Run.AD ?_|(refine AJ.mk (by simp only [BU,Cr,hn.BZ,Am,BA];rfl) hfi ?_;rintro _ τ ⟨rfl,rfl⟩)|(refine Dy.aE (cx:=Dq) hown rfl (by simp) (by rw [AA,hhl];simp;omega) (by decide) (fun v2 τ2 ho2 hbk=>?_))|refine AJ.det (htw) ?_)<;>try simp -implicitDefEqProofs only [A8 hlt,he,hge,AA,hn.Ar,hout.Ar,hus.Ar,go_sem])|fail))
   have hn2:=ho2.head
   simp only at hn2
   simp only [hn2.Ar,AZ,if_false]
   have hnp:v2.plain= .d (.sl (((Cq (ps.take i)++[(dn,dvs'.length)]).map (·.1)).map BF)):=by
    rw [hn2.plain];simp [BF]
   have hou2:F1 σ [⟨9,1,(I3 (ps.take i)).map BF,usedv⟩,⟨9,1,((Cq (ps.take i)).map (·.1)).map BF++[[.str dn]],v2⟩,⟨122,3,dl.map Dat.enc,outv⟩] τ2:=
    ho2.perm (List.perm_append_comm (l₁:=[_,_]) (l₂:=[_]))
   refine aP Q _ ps fs (Cq (ps.take i)++[(dn,dvs'.length)]) dn dvs' dcs hhd i hc1 hc2 σ τ2 outv v2 usedv (.d (.str dn)) (.d (.int .i64 dvs'.length)) ⟨rfl,rfl⟩ (I3 (ps.take i)) hul _ hou2 hn2.le hnp hn2.BZ (fun k=>⟨hn2.Ar k,hout.Ar k⟩) (fun e he'=>?_) (fun us usedv' consv' τ3 hts ho3 hle3=>?_)
   · rw [he'] at hall
     exact herr e i hall
   · rw [hts] at hsn
     simp only [DJ,CP] at hsn
     have ho4:F1 σ [⟨122,3,dl.map Dat.enc,outv⟩,⟨9,1,(I3 (ps.take i)++dcs.map (·.name)).map BF,usedv'⟩,⟨124,2,us.map Con.enc,consv'⟩,⟨9,1,((Cq (ps.take i)).map (·.1)).map BF++[[.str dn]],v2⟩] τ3:=
      ho3.perm (List.perm_append_comm (l₁:=[_,_,_]) (l₂:=[_]))
     have hu3:=ho3.head
     have hc3:=ho3.tail.head
     simp only at hu3 hc3
     (repeat' (first|refine Run.ct rfl ?_|((first|refine Run.reg mixed ?_|refine Run.AD ?_|(refine Dy.aE (cx:=Dq) ho4 rfl (by simp) (by simp [hlen];omega) (by decide) (fun v5 τ5 ho5 hbk5=>?_)))<;>try simp -implicitDefEqProofs only [hw1,hc3.cell,hc3.cells,hc3.dv,AA,hn2.Ar,hout.Ar,hu3.Ar,go_sem])|fail))
     have ho6:=ho5.perm (List.perm_append_comm (l₁:=[_,_]) (l₂:=[_,_]))
     have h5:=ho5.head
     simp only at h5
     exact ih (i+1,dl++[(⟨dn,dvs'.length,us⟩:Dat)],v5,v2,usedv',τ5) ⟨by simp only;omega,hsn,by
      have:=ho6.tail
      simp only [hheads,huse]
      simpa [Dat.enc,BF] using this⟩ (by simp only;omega)
 · rw [AH (by omega)] at hgo
   have hfin:=hok dl hgo
   (repeat' (first|refine Run.ct rfl ?_|((first|refine Run.reg mixed ?_|refine Run.AD ?_|(refine Run.A1 If (σ2:=σ) hn.le ?_))<;>try simp -implicitDefEqProofs only [Bd hlt,AA,hn.Ar,hout.Ar,hus.Ar,hout.BZ,go_sem])|fail))
   simp -implicitDefEqProofs only [hout.plain,hout.BZ,go_sem]
   exact hfin
end Go.Ab
namespace Go.Ab
open Go.Proofs
def wkB (ps:List DE) (fs:List FE) (dt:List Dat) (n:Int) (uv:AV):List AV:=[.d (.sl (ps.map DE.enc)),.d (.sl (fs.map FE.enc)),.d (.sl (dt.map Dat.enc)),.d (.int .i64 n),uv]
theorem Oi (ps:List DE) (fs:List FE) (dt:List Dat) (n:Int) (uv:AV) (j:Nat) (s:Str) (σ:AF) (hfl:fs.length≤1000) (hb:σ.blk j=some (wkB ps fs dt n uv)):
 AM Tryz.prog 37 [.gp j 0,.d (.str s)] σ (fun v σ'=>v= .d (.int .i64 (Ee (Ct (CU fs) s)))∧σ'=σ):=by
 refine O6 (by simp) ?_
 rw [BY,← KQ]
 unfold wkB at hb
 (repeat' (first|refine Run.ct rfl ?_|((first|refine Run.reg mixed ?_|refine Run.AD ?_)<;>try simp -implicitDefEqProofs only [AA,hb,go_sem])|fail))
 refine Run.BD ?_
 refine Run.BG ((fun (a0:AV) (a1:AV)=>fun (i:Nat)=>put 0 a0 (put 1 a1 (put 5 (.d (.int .i64 i)) U))) _ _) (fun _=>E) (fun _=>σ) (fun i=>i≤fs.length∧∀x∈(CU fs).take i,(x==s)=false) (fun i=>fs.length - i) ?_ 0 ⟨by simp,by simp⟩
 rintro i ⟨hi,hno⟩ ih
 by_cases hlt:i < fs.length
 · obtain ⟨f,hf⟩:=BC hlt
   have he:=Ay (enc:=FE.enc) hf
   have hx:(CU fs)[i]?=some f.name:=by rw [CU,Ah,hf];rfl
   obtain ⟨nm,fps,⟨o,n',u,ns,ks,al⟩⟩:=f
   simp only [FE.enc,Ex.A7] at he hx
   cases hp:(nm==s) with
   |true=>
    (repeat' (first|refine Run.ct rfl ?_|((first|refine Run.reg mixed ?_|refine Run.AD ?_|refine Run.A1 GQ (AF.le_refl _) ?_)<;>try simp -implicitDefEqProofs only [A8 hlt,he,hb,BS,hp,AA,go_sem])|fail))
    rw [D1 (p:=fun x=>x==s) hno hx hp];rfl
   |false=>
    have hw1:=A6 (show i+1≤9000000000000000000 by omega)
    (repeat' (first|refine Run.ct rfl ?_|((first|refine Run.reg mixed ?_|refine Run.AD ?_)<;>try simp -implicitDefEqProofs only [A8 hlt,he,hb,hw1,BS,hp,AA,go_sem])|fail))
    exact ih (i+1) ⟨by omega,Eg (p:=fun x=>x==s) hno hx hp⟩ (by omega)
 · (repeat' (first|refine Run.ct rfl ?_|((first|refine Run.reg mixed ?_|refine Run.AD ?_|refine Run.A1 GQ (AF.le_refl _) ?_)<;>try simp -implicitDefEqProofs only [Bd hlt,hb,AA,go_sem])|fail))
   rw [AH (by rw [CU,AA];omega)] at hno
   rw [D2 (p:=fun x=>x==s) hno];rfl
theorem Cg.form {σ τ:AF} {e s:Nat} {rows:List (List DV)} {v:AV} (h:Cg σ e s rows v τ):(v= .AY∧rows=[])∨∃t,v= .own t e s rows:=by
 obtain ⟨σ1,ha,_⟩:=h.app
 unfold Nm at ha
 split at ha
 · cases ha;exact .inl ⟨rfl,rfl⟩
 · split at ha
   · rename_i hc
     cases ha
     obtain ⟨rfl,rfl,_⟩:=hc
     exact .inr ⟨_,rfl⟩
   · cases ha
 · cases ha
theorem kP {xs:List (Nat×Nat)} (h:exB xs=true) (q:Nat):(xs.map (·.2)).any (fun c=>c==q)=xs.contains (Cp xs,q):=by
 cases xs with
 |nil=>rfl
 |cons x l=>
  simp only [exB,AQ,As,beq_iff_eq] at h
  rw [Ac,Aa]
  simp only [List.any_map,List.any_eq_true,Function.comp,beq_iff_eq,Cp]
  constructor
  · rintro ⟨y,hy,rfl⟩
    have:=h.1 y hy
    rw [← this];exact hy
  · intro hm
    exact ⟨_,hm,rfl⟩
theorem gU (xs:List (Nat×Nat)) (hne:xs≠[]) (d k:Nat):(exB xs&&(d==Cp xs)&& !((xs.map (·.2)).any (fun c=>c==k)))=exB (xs++[(d,k)]):=by
 rw [YL hne]
 cases he:exB xs with
 |false=>simp
 |true=>
  rw [kP he]
  by_cases hd:d=Cp xs
  · simp [hd]
  · have h1:(d==Cp xs)=false:=by simpa using hd
    have h2:(d != Cp xs)=true:=by simpa using hd
    rw [h1,h2];rfl
theorem c9 {dt:List Dat} {xs:List (Nat×Nat)} (hne:xs≠[]):Ub dt xs=(exB xs&&decide (xs.length=GD dt (Cp xs))):=by
 cases xs with
 |nil=>exact absurd rfl hne
 |cons x l=>rfl
def YO (xs:List (Nat×Nat)):Int:=match xs with|[]=>-1|x::_=>x.1
theorem gY {xs:List (Nat×Nat)} (h:xs≠[]) (y:Nat×Nat):YO (xs++[y])=YO xs:=by
 cases xs with
 |nil=>exact absurd rfl h
 |cons x l=>rfl
theorem gX {xs:List (Nat×Nat)} (h:xs≠[]):YO xs=Cp xs:=by
 cases xs with
 |nil=>exact absurd rfl h
 |cons x l=>rfl
set_option maxHeartbeats 4000000 in
theorem aQ (Q:AV→AF→Prop) (rest:List CI) (j:Nat) (alv:AV) (i:Nat) (ys:List Nat) (sv:AV) (σ τ:AF) (ho:Cg σ 3 1 (ys.map DI) sv τ) (f d c:Nat) (s0:Bool) (hlen:ys.length≤1000000) (hs0:s0=true→d=f) (halp:∀k,alv.Ar k=false)
 (hfin:Run D8 Q rest (put 0 (.gp j 0) (put 1 alv (put 5 sv (put 6 (.d (.int .i64 f)) (put 7 (.d (.bool (s0&& !(ys.any (fun q=>q==c))))) (put 8 (.d (.int .i64 i)) (put 9 (.d (.int .i64 d)) (put 10 (.d (.int .i64 c)) (put 12 (.d (.int .i64 ys.length)) (put 73 (.d (.bool false)) U)))))))))) E τ):
 Run D8 Q (.code (.loop Ji)::.blk 2::rest) (put 0 (.gp j 0) (put 1 alv (put 5 sv (put 6 (.d (.int .i64 f)) (put 7 (.d (.bool s0)) (put 8 (.d (.int .i64 i)) (put 9 (.d (.int .i64 d)) (put 10 (.d (.int .i64 c)) (put 12 (.d (.int .i64 0)) U))))))))) E τ:=by
 refine Run.BD ?_
 refine Run.BG ((fun (a0:AV) (a1:AV) (a5:AV) (a6:AV) (a8:AV) (a9:AV) (a10:AV)=>fun (q:Nat)=>put 0 a0 (put 1 a1 (put 5 a5 (put 6 a6 (put 7 (.d (.bool (s0&& !((ys.take q).any (fun q=>q==c))))) (put 8 a8 (put 9 a9 (put 10 a10 (put 12 (.d (.int .i64 q)) U))))))))) _ _ _ _ _ _ _) (fun _=>E) (fun _=>τ) (fun q=>q≤ys.length) (fun q=>ys.length - q) ?_ 0 (by simp)|>(fun h=>by simpa using h)
 rintro q hq ih
 rcases ho.form with ⟨rfl,hr⟩|⟨tk,rfl⟩
 · have:ys=[]:=by simpa using hr
   subst this
   have hq0:q=0:=by simpa using hq
   subst hq0
   have h00:decide ((0:Int) < 0)=false:=by decide
   clear ih
   (repeat' (first|refine Run.ct rfl ?_|((first|refine Run.reg mixed ?_|refine Run.AD ?_)<;>try simp -implicitDefEqProofs only [List.take_nil,List.any_nil,C2,Am,h00,halp,go_sem])|(refine ⟨fun h=>?_,fun h=>?_⟩<;>first|(cases h;done)|try simp only [h])|fail))
   simpa using hfin
 by_cases hlt:q < ys.length
 · obtain ⟨y,hy⟩:=BC hlt
   have hw1:=A6 (show q+1≤9000000000000000000 by omega)
   have hi1:=ih (q+1) (by omega) (by omega)
   simp only at hi1
   rw [Aw hy,List.any_append,KT,List.any_nil,KS] at hi1
   have hey:=Ay (enc:=DI) hy
   rw [Kn] at hey
   clear ih
   cases hb:(s0&& !((ys.take q).any (fun q=>q==c))) with
   |false=>
    have hb2:(s0&& !((ys.take q).any (fun q=>q==c)||y==c))=false:=by
     rw [Bool.not_or,← Bool.and_assoc,hb,B1]
    rw [hb2] at hi1
    (repeat' (first|refine Run.ct rfl ?_|((first|refine Run.reg mixed ?_|refine Run.AD ?_)<;>try simp -implicitDefEqProofs only [A8 hlt,AA,hw1,hb,halp,go_sem])|fail))
    exact hi1
   |true=>
    have hs:s0=true:=by
     cases s0 with
     |true=>rfl
     |false=>simp at hb
    have hdf:=hs0 hs
    subst hdf
    have hb2:(s0&& !((ys.take q).any (fun q=>q==c)||y==c))=!(y==c):=by
     rw [Bool.not_or,← Bool.and_assoc,hb,BA]
    rw [hb2] at hi1
    have hdd:((d:Int)==(d:Int))=true:=by simp
    have hyc:((y:Int)==(c:Int))=(y==c):=mZ y c
    (repeat' (first|refine Run.ct rfl ?_|((first|refine Run.reg mixed ?_|refine Run.AD ?_)<;>try simp -implicitDefEqProofs only [A8 hlt,AA,hw1,hb,halp,hey,hdd,hyc,go_sem])|fail))
    exact hi1
 · have hqe:q=ys.length:=by omega
   subst hqe
   have htk:ys.take ys.length=ys:=List.take_length
   (repeat' (first|refine Run.ct rfl ?_|((first|refine Run.reg mixed ?_|refine Run.AD ?_)<;>try simp -implicitDefEqProofs only [Bd hlt,AA,htk,halp,go_sem])|fail))
   exact hfin
theorem aR (ps:List DE) (fs:List FE) (dt:List Dat) (hdt:QS dt) (n0:Int) (uv:AV) (j:Nat) (al:List Al) (σ:AF) (hal:al.length≤1000000) (hne0:al≠[]) (hb:σ.blk j=some (wkB ps fs dt n0 uv)):
 AM Tryz.prog 68 [.gp j 0,.d (.sl (al.map Al.enc))] σ (fun v σ'=>v= .d (.int .i64 (KV dt al))∧σ'=σ):=by
 refine SN (by simp) ?_
 rw [BY]
 unfold wkB at hb
 (repeat' (first|refine Run.ct rfl ?_|((first|refine Run.reg mixed ?_|refine Run.AD ?_)<;>try simp -implicitDefEqProofs only [AA,go_sem])|fail))
 refine Run.BD ?_
 refine Run.BG ((fun (a0:AV) (a1:AV)=>fun (y:Nat×List (Nat×Nat)×AV×AF)=>put 0 a0 (put 1 a1 (put 5 (y.2.2.1) (put 6 (.d (.int .i64 (YO y.2.1))) (put 7 (.d (.bool (exB y.2.1))) (put 8 (.d (.int .i64 y.1)) U)))))) _ _) (fun _=>E) (fun y=>y.2.2.2)
  (fun y=>y.1≤al.length∧y.2.1.length=y.1∧Ci dt (al.take y.1)= .ok y.2.1∧Cg σ 3 1 ((y.2.1.map (·.2)).map DI) y.2.2.1 y.2.2.2) (fun y=>al.length - y.1) ?_ (0,[],.AY,σ) ⟨by simp,rfl,rfl,Cg.nil _ _ _⟩
 rintro ⟨i,xs,sv,τ⟩ ⟨hi,hlx,hok,ho⟩ ih
 simp only at hi hlx hok ho
 have hb1:=ho.le.blk j _ hb
 by_cases hlt:i < al.length
 · obtain ⟨a,ha⟩:=BC hlt
   have he:=Ay (enc:=Al.enc) ha
   have hw1:=A6 (show i+1≤9000000000000000000 by omega)
   have hall:Ci dt al=(Ci dt (a::al.drop (i+1))).map (xs++·):=by
    conv=>lhs;rw [← A4 i al,Bb ha]
    exact KU dt _ hok
   have hsn:Ci dt (al.take (i+1))=(Ci dt [a]).map (xs++·):=by
    rw [Aw ha];exact KU dt _ hok
   obtain ⟨c,vs,o,n,u,ns,ks,aa⟩:=a
   rw [Ci] at hall hsn
   simp only [Al.A7] at he
   have hctr:=L3 dt hdt c τ
   rw [dsA] at hctr
   have herr:∀e:Int,Ci dt al= .error e→KV dt al=e:=fun e h=>by rw [KV,h]
   cases hc:I8 dt c with
   |none=>
    rw [hc] at hctr hall
    simp only [SF] at hctr
    (repeat' (first|refine Run.ct rfl ?_|((first|refine Run.reg mixed ?_|refine Run.AD ?_|(refine Run.A1 D3 ho.le ?_)|refine AJ.det (hctr) ?_)<;>try simp -implicitDefEqProofs only [A8 hlt,he,hb1,AA,go_sem])|fail))
    rw [herr 3 (by rw [hall];rfl)]
   |some x=>
   rw [hc] at hctr hall hsn
   simp only [SF] at hctr hall hsn
   obtain ⟨d,cc,h1,h2,_⟩:=KO hc
   have har:=NC (s:=[]) h1 h2
   have hd:=ND h1
   have hcc:=NA h2
   rw [har] at hall hsn
   by_cases hA:vs.length≠cc.args.length
   · rw [if_pos hA] at hall
     have hA':((vs.length:Int) != (cc.args.length:Int))=true:=by rw [TU];simpa using hA
     (repeat' (first|refine Run.ct rfl ?_|((first|refine Run.reg mixed ?_|refine Run.AD ?_|(refine Run.A1 D3 ho.le ?_)|refine AJ.det (hctr) ?_)<;>try simp -implicitDefEqProofs only [A8 hlt,he,hb1,hd,hcc,AA,Dz,hA',go_sem])|fail))
     rw [herr 5 (by rw [hall];rfl)]
   rw [if_neg hA] at hall hsn
   have hA':((vs.length:Int) != (cc.args.length:Int))=false:=by rw [TU];simpa using hA
   have hrep:=L4 vs τ
   cases hB:CC vs with
   |true=>
    rw [hB] at hrep hall
    rw [if_pos rfl] at hall
    (repeat' (first|refine Run.ct rfl ?_|((first|refine Run.reg mixed ?_|refine Run.AD ?_|(refine Run.A1 D3 ho.le ?_)|refine AJ.det (hctr) ?_|refine AJ.det (hrep) ?_)<;>try simp -implicitDefEqProofs only [A8 hlt,he,hb1,hd,hcc,AA,Dz,hA',go_sem])|fail))
    rw [herr 4 (by rw [hall];rfl)]
   |false=>
   rw [hB] at hrep hsn
   rw [if_neg (by simp)] at hsn
   simp only [Ci,CP] at hsn
   rw [show xs++[x]=xs++[(x.1,x.2)] from rfl] at hsn
   have hgo:∀(sv':AV) (τ':AF),Cg σ 3 1 (((xs++[(x.1,x.2)]).map (·.2)).map DI) sv' τ'→_:=fun sv' τ' h=>ih (i+1,xs++[(x.1,x.2)],sv',τ') ⟨by simp only;omega,by simp [hlx],hsn,h⟩ (by simp only;omega)
   simp only at hgo
   clear hall hsn ih herr
   have hL0:=fun Q rest f s0 (hs0:s0=true→x.1=f)=>aQ Q rest j (.d (.sl (al.map Al.enc))) i (xs.map (·.2)) sv σ τ ho f x.1 x.2 s0 (by rw [AA];omega) hs0 (fun _=>rfl)
   by_cases hx0:xs=[]
   · subst hx0
     have hm1:decide ((-1:Int) < 0)=true:=by decide
     have hself:((x.1:Int)==(x.1:Int))=true:=by simp
     (repeat' (first|refine Run.ct rfl ?_|((first|refine Run.reg mixed ?_|refine Run.AD ?_|refine AJ.det (hctr) ?_|refine AJ.det (hrep) ?_)<;>try simp -implicitDefEqProofs only [A8 hlt,he,hb1,hd,hcc,AA,Dz,hA',YO,exB,hm1,hself,ho.Ar,go_sem])|fail))
     have h1:exB ([]++[(x.1,x.2)])=true:=by simp [exB]
     refine hL0 _ _ x.1 true (fun _=>rfl) ?_
     simp only [AO,List.any_nil,C2,Am]
     (repeat' (first|refine Run.ct rfl ?_|((first|refine Run.reg mixed ?_|refine Run.AD ?_|(refine Dy.own ho rfl (by simp) (by simp) (by decide) (fun v2 τ2 ho2 hbk=>?_)))<;>try simp -implicitDefEqProofs only [hw1,AA,ho.Ar,go_sem])|fail))
     have hg:=hgo v2 τ2 (by simpa [DI] using ho2)
     rw [h1,show YO ([]++[(x.1,x.2)])=x.1 from rfl] at hg
     exact hg
   · have hf0:decide ((Cp xs:Int) < 0)=false:=decide_eq_false (by omega)
     have hdd:((x.1:Int)==(Cp xs:Int))=(x.1==Cp xs):=mZ _ _
     have hsl:=Et.2 hx0
     have hex:=gU xs hx0 x.1 x.2
     rw [gY hx0] at hgo
     have hfi:YO xs=(Cp xs:Int):=gX hx0
     rw [hfi,← hex] at hgo
     cases hxb:exB xs with
     |true=>
      rw [hxb,BA] at hgo
      (repeat' (first|refine Run.ct rfl ?_|((first|refine Run.reg mixed ?_|refine Run.AD ?_|refine AJ.det (hctr) ?_|refine AJ.det (hrep) ?_)<;>try simp -implicitDefEqProofs only [A8 hlt,he,hb1,hd,hcc,AA,Dz,hA',hfi,hf0,hdd,hxb,ho.Ar,go_sem])|fail))
      refine hL0 _ _ (Cp xs) (x.1==Cp xs) (fun h=>by simpa using h) ?_
      (repeat' (first|refine Run.ct rfl ?_|((first|refine Run.reg mixed ?_|refine Run.AD ?_|(refine Dy.own ho rfl (by simp) (by simp;omega) (by decide) (fun v2 τ2 ho2 hbk=>?_)))<;>try simp -implicitDefEqProofs only [hw1,AA,ho.Ar,go_sem])|fail))
      exact hgo v2 τ2 (by simpa [DI] using ho2)
     |false=>
      rw [hxb,B1,B1] at hgo
      (repeat' (first|refine Run.ct rfl ?_|((first|refine Run.reg mixed ?_|refine Run.AD ?_|refine AJ.det (hctr) ?_|refine AJ.det (hrep) ?_)<;>try simp -implicitDefEqProofs only [A8 hlt,he,hb1,hd,hcc,AA,Dz,hA',hfi,hf0,hdd,hxb,ho.Ar,go_sem])|fail))
      refine hL0 _ _ (Cp xs) false (fun h=>by cases h) ?_
      rw [B1]
      (repeat' (first|refine Run.ct rfl ?_|((first|refine Run.reg mixed ?_|refine Run.AD ?_|(refine Dy.own ho rfl (by simp) (by simp;omega) (by decide) (fun v2 τ2 ho2 hbk=>?_)))<;>try simp -implicitDefEqProofs only [hw1,AA,ho.Ar,go_sem])|fail))
      exact hgo v2 τ2 (by simpa [DI] using ho2)
 · rw [AH (by omega)] at hok
   have hne:xs≠[]:=by
    intro e;subst e;simp at hlx
    have:=Et.2 hne0;omega
   have hres:KV dt al=if exB xs&&decide (xs.length=GD dt (Cp xs)) then 0 else 7:=by rw [KV,hok];simp only;rw [c9 hne]
   have hfi:YO xs=(Cp xs:Int):=gX hne
   have hial:i=al.length:=by omega
   obtain ⟨hbd,hfd⟩:(∀x∈xs,x.2 < GD dt x.1)∧Cp xs < dt.length:=by
    refine ⟨PG hok,?_⟩
    cases xs with
    |nil=>exact absurd rfl hne
    |cons x l=>
     have:=PG hok x (BT ..)
     simp only [Cp]
     unfold GD at this
     cases hd:dt[x.1]? with
     |none=>rw [hd] at this;simp at this
     |some d=>exact (AR.1 hd).1
   obtain ⟨d,hd⟩:=BC hfd
   have hed:=ND hd
   have hnc:GD dt (Cp xs)=d.cons.length:=Ux hd
   have hne2:((al.length:Int) != (d.cons.length:Int))=!decide (xs.length=GD dt (Cp xs)):=by
    rw [TU,hnc,hlx,hial,Ac];simp
   cases hxb:exB xs with
   |false=>
    rw [hxb,B1] at hres
    (repeat' (first|refine Run.ct rfl ?_|((first|refine Run.reg mixed ?_|refine Run.AD ?_|(refine Run.A1 D3 ho.le ?_))<;>try simp -implicitDefEqProofs only [Bd hlt,hxb,AA,go_sem])|fail))
    rw [hres];rfl
   |true=>
    rw [hxb,BA] at hres
    cases hde:decide (xs.length=GD dt (Cp xs)) with
    |true=>
     rw [hde] at hne2 hres
     (repeat' (first|refine Run.ct rfl ?_|((first|refine Run.reg mixed ?_|refine Run.AD ?_|(refine Run.A1 D3 ho.le ?_))<;>try simp -implicitDefEqProofs only [Bd hlt,hxb,hb1,hfi,hed,hne2,AA,go_sem])|fail))
     rw [hres];rfl
    |false=>
     rw [hde] at hne2 hres
     (repeat' (first|refine Run.ct rfl ?_|((first|refine Run.reg mixed ?_|refine Run.AD ?_|(refine Run.A1 D3 ho.le ?_))<;>try simp -implicitDefEqProofs only [Bd hlt,hxb,hb1,hfi,hed,hne2,AA,go_sem])|fail))
     rw [hres];rfl
end Go.Ab
