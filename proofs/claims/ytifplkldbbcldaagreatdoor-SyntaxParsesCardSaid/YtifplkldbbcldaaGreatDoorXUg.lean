/- Valid expressions, as the reference looks at them. Valid expressions, as the reference looks at them: the nodes. Valid programs. Conditions: none. -/
import Derived.Test.YtifplkldbbcldaaGreatDoorXZi
set_option linter.unusedSimpArgs false
set_option linter.unusedVariables false
set_option maxRecDepth 4000
set_option maxHeartbeats 8000000
open Bool renaming and_true→BR,true_and→Bg,and_eq_true→AR,eq_iff_iff→Ds,and_false→G6
open List renaming length_map→AJ,map_cons→AB,map_nil→AE,take_of_length_le→A8,mem_of_getElem?→Aa
open Nat renaming le_refl→A4
open Option renaming bind_some→Cn
open Int renaming reduceBEq→As
namespace Go.Ab
open Go.Proofs
def Xt (o:Int) (n:Str) (u:Int) (ns:List Str) (nk na:Nat):Bool:=
 nmB o n&&nuB o u&&nsB o ns&&(if o=10 then decide (1≤na) else decide (na=0))&&nkB o u nk
theorem Xs (o:Int) (n:Str) (u:Int) (ns:List Str) (nk:Nat) (al:List Al):Iw o n u ns nk al=(Xt o n u ns nk al.length&&al.all Re):=by
 unfold Iw Xt asB
 split
 · cases nmB o n<;>cases nuB o u<;>cases nsB o ns<;>cases nkB o u nk<;>simp
 · cases al with
   |nil=>simp
   |cons a l=>simp
theorem QC (l:List Str):NC l false=(decide (l.length≤6)&&l.all KA):=by
 unfold NC
 congr 2
 funext s
 simp only [KA,Bool.not_false,BR]
 exact Bool.or_comm _ _
theorem SS (l:List Str):NC l true=(decide (l.length≤6)&&l.all EE):=by
 unfold NC
 congr 2
 funext s
 simp
def Gw (r:Nat):Int:=(r:Int)
set_option maxHeartbeats 4000000 in
theorem wT (j d q:Nat) (ihd:∀(q:Nat),q≤600→∀(e:Ex) (σ:AK),σ.blk j=some [.d (.int .i64 (Gw q))]→AP Tryz.prog 57 [exA e,.d (.int .i64 (d:Int)),.gp j 0] σ (VXQ Gw j d q e σ)) (hd:d < 40) (hq:q≤600)
 (o:Int) (n:Str) (u:Int) (ns:List Str) (ks:List Ex) (al:List Al) (σ:AK) (hnode:Xt o n u ns ks.length al.length=true):
 Run GD (VXQ Gw j (d+1) (q+1) (.mk o n u ns ks al) σ) [.code (.loop OJ),.blk 1,.code (.seq (.seq (.reg [⟨some 14,.mv (.c (.d (.int .i64 0))),none⟩] [1,2,3,14]) (.block 3 (.loop OK))) (.seq (.reg [⟨some 6,.mv (.c (.d (.bool true))),none⟩] [6]) .ret))]
  (put 1 (.d (.int .i64 ((d+1:Nat):Int))) (put 2 (.gp j 0) (put 3 (.lp 3 0) (put 13 (.d (.int .i64 0)) U)))) (Aq 3 [.d (.int .i64 o),.d (.str n),.d (.int .i64 u),.d (.sl (ns.map Br)),.d (.sl (ks.map Ex.enc)),.d (.sl (al.map Al.enc))] E) (σ.AH j [.d (.int .i64 (Gw q))]):=by
 have hws:IntKind.i64.wrap (((d+1:Nat):Int) - 1)=(d:Int):=VU (by omega)
 have hres:vEx (d+1) (q+1) (.mk o n u ns ks al)=if al.all Re then (ks.foldlM (fK d) q).bind fun q=>al.foldlM (fA d) q else none:=by rw [TZ,Xs,hnode,Bg]
 generalize hV:VXQ Gw j (d+1) (q+1) (.mk o n u ns ks al) σ=V
 have hno:∀z,vEx (d+1) (q+1) (.mk o n u ns ks al)=none→V (.d (.bool false)) (σ.AH j [.d (.int .i64 z)]):=fun z h=>by
  rw [← hV];exact ⟨false,z,rfl,rfl,by rw [h];rfl,fun r hr=>by rw [h] at hr;cases hr⟩
 have hyes:∀r,vEx (d+1) (q+1) (.mk o n u ns ks al)=some r→V (.d (.bool true)) (σ.AH j [.d (.int .i64 (Gw r))]):=fun z h=>by
  rw [← hV];exact ⟨true,_,rfl,rfl,by rw [h];rfl,fun r hr=>by rw [h] at hr;cases hr;rfl⟩
 clear hV
 refine Run.cell 3 4 rfl rfl (fun hb4=>?_)
 refine Run.cell 3 5 rfl rfl (fun hb5=>?_)
 simp only [AV.Fc,AJ] at hb4 hb5
 refine Run.BU ?_
 refine Run.BZ ((fun (a1:AV) (a2:AV) (a3:AV)=>fun (y:Nat×Nat)=>put 1 a1 (put 2 a2 (put 3 a3 (put 13 (.d (.int .i64 y.1)) U)))) _ _ _) (fun _=>Aq 3 [.d (.int .i64 o),.d (.str n),.d (.int .i64 u),.d (.sl (ns.map Br)),.d (.sl (ks.map Ex.enc)),.d (.sl (al.map Al.enc))] E) (fun y=>σ.AH j [.d (.int .i64 (Gw y.2))])
  (fun y=>y.1≤ks.length∧y.2≤q∧(ks.take y.1).foldlM (fK d) q=some y.2) (fun y=>ks.length - y.1) ?_ (0,q) ⟨by simp,A4 _,rfl⟩
 rintro ⟨i,p⟩ ⟨hi,hp,hok⟩ ih
 simp only at hi hp hok
 by_cases hlt:i < ks.length
 · obtain ⟨x,hx⟩:=CF hlt
   have he:=Bq (enc:=Ex.enc) hx
   have hw1:IntKind.i64.wrap ((i:Int)+1)=((i+1:Nat):Int):=by rw [BF (by omega) (by omega)];omega
   have hc:=ihd p (by omega) x (σ.AH j [.d (.int .i64 (Gw p))]) (by simp only [AZ,if_true])
   cases hv:vEx d p x with
   |some r=>
    have hr:=TY _ _ _ _ hv
    have hc:=VXQ.yes hc hv
    have hs:=K7 hok hx
    obtain ⟨xo,xn,xu,xs,xk,xa⟩:=x
    simp only [Ex.AS,exA,AB,AE] at he hc
    (repeat' (first|refine ctQ rfl ?_|((first|refine rgQ mxQ ?_|refine cdQ ?_|(refine AD.mk rfl hc ?_;rintro _ _ ⟨rfl,rfl⟩))<;>try simp -implicitDefEqProofs only [B1 hlt,he,hw1,hws,AJ,go_sem])|fail))
    exact ih (i+1,r) ⟨by simp only;omega,by simp only;omega,by simp only;rw [hs];exact hv⟩ (by simp only;omega)
   |none=>
    have hc:=VXQ.no hc hv
    have hs:=K6 hok hx hv
    obtain ⟨xo,xn,xu,xs,xk,xa⟩:=x
    simp only [Ex.AS,exA,AB,AE] at he hc
    (repeat' (first|refine ctQ rfl ?_|((first|refine rgQ mxQ ?_|refine cdQ ?_|refine Run.FT C4 (AK.le_refl _) ?_|(refine AD.mk rfl hc ?_;rintro _ _ ⟨rfl,z,rfl⟩))<;>try simp -implicitDefEqProofs only [B1 hlt,he,hws,AJ,go_sem])|fail))
    refine hno z ?_
    rw [hres,hs];split<;>rfl
 · rw [A8 (by omega)] at hok
   rw [hok,Cn] at hres
   clear ih
   (repeat' (first|refine ctQ rfl ?_|((first|refine rgQ mxQ ?_|refine cdQ ?_)<;>try simp -implicitDefEqProofs only [Ff hlt,AJ,go_sem])|fail))
   refine Run.BU ?_
   refine Run.BZ ((fun (a1:AV) (a2:AV) (a3:AV)=>fun (y:Nat×Nat)=>put 1 a1 (put 2 a2 (put 3 a3 (put 14 (.d (.int .i64 y.1)) U)))) _ _ _) (fun _=>Aq 3 [.d (.int .i64 o),.d (.str n),.d (.int .i64 u),.d (.sl (ns.map Br)),.d (.sl (ks.map Ex.enc)),.d (.sl (al.map Al.enc))] E) (fun y=>σ.AH j [.d (.int .i64 (Gw y.2))])
    (fun y=>y.1≤al.length∧y.2≤q∧(al.take y.1).all Re=true∧(al.take y.1).foldlM (fA d) p=some y.2) (fun y=>al.length - y.1) ?_ (0,p) ⟨by simp,hp,by simp,rfl⟩
   rintro ⟨i,p⟩ ⟨hi,hp,hab,hok⟩ ih
   simp only at hi hp hab hok
   by_cases hlt:i < al.length
   · obtain ⟨x,hx⟩:=CF hlt
     have he:=Bq (enc:=Al.enc) hx
     have hw1:IntKind.i64.wrap ((i:Int)+1)=((i+1:Nat):Int):=by rw [BF (by omega) (by omega)];omega
     cases halt:Re x with
     |false=>
      have hna:al.all Re=false:=ZO hx halt
      rw [hna] at hres
      have hnz:=hno (Gw p) (by rw [hres];rfl)
      obtain ⟨xc,xv,xo,xn,xu,xs,xk,xa⟩:=x
      simp only [Al.AS] at he
      cases hup:upperB xc with
      |false=>
       have h1:=DU xc 2 (σ.AH j [.d (.int .i64 (Gw p))])
       rw [show HJ 2 xc=upperB xc from rfl,hup] at h1
       (repeat' (first|refine ctQ rfl ?_|((first|refine rgQ mxQ ?_|refine cdQ ?_|refine Run.FT C4 (AK.le_refl _) ?_|refine AD.det (h1) ?_)<;>try simp -implicitDefEqProofs only [B1 hlt,he,AJ,go_sem])|fail))
       exact hnz
      |true=>
       have h1:=DU xc 2 (σ.AH j [.d (.int .i64 (Gw p))])
       rw [show HJ 2 xc=upperB xc from rfl,hup] at h1
       have h2:=Iz xv false (σ.AH j [.d (.int .i64 (Gw p))])
       have hb:NC xv false=false:=by
        rw [QC]
        simp only [Re,hup,Bg] at halt
        exact halt
       rw [hb] at h2
       (repeat' (first|refine ctQ rfl ?_|((first|refine rgQ mxQ ?_|refine cdQ ?_|refine Run.FT C4 (AK.le_refl _) ?_|refine AD.det (h1) ?_|refine AD.det (h2) ?_)<;>try simp -implicitDefEqProofs only [B1 hlt,he,AJ,go_sem])|fail))
       exact hnz
     |true=>
      have hab2:=Kv hab hx halt
      obtain ⟨xc,xv,x⟩:=x
      have hup:upperB xc=true:=by simp only [Re,AR] at halt;exact halt.1.1
      have hbn:NC xv false=true:=by rw [QC];simp only [Re,AR] at halt ⊢;exact ⟨halt.1.2,halt.2⟩
      have h1:=DU xc 2 (σ.AH j [.d (.int .i64 (Gw p))])
      rw [show HJ 2 xc=upperB xc from rfl,hup] at h1
      have h2:=Iz xv false (σ.AH j [.d (.int .i64 (Gw p))])
      rw [hbn] at h2
      have hc:=ihd p (by omega) x (σ.AH j [.d (.int .i64 (Gw p))]) (by simp only [AZ,if_true])
      cases hv:vEx d p x with
      |some r=>
       have hr:=TY _ _ _ _ hv
       have hc:=VXQ.yes hc hv
       have hs:=K7 hok hx
       obtain ⟨xo,xn,xu,xs,xk,xa⟩:=x
       simp only [Al.AS,Ex.AS,exA,AB,AE] at he hc
       (repeat' (first|refine ctQ rfl ?_|((first|refine rgQ mxQ ?_|refine cdQ ?_|(refine AD.mk rfl hc ?_;rintro _ _ ⟨rfl,rfl⟩)|refine AD.det (h1) ?_|refine AD.det (h2) ?_)<;>try simp -implicitDefEqProofs only [B1 hlt,he,hw1,hws,AJ,go_sem])|fail))
       exact ih (i+1,r) ⟨by simp only;omega,by simp only;omega,hab2,by simp only;rw [hs];exact hv⟩ (by simp only;omega)
      |none=>
       have hc:=VXQ.no hc hv
       have hs:=K6 hok hx hv
       obtain ⟨xo,xn,xu,xs,xk,xa⟩:=x
       simp only [Al.AS,Ex.AS,exA,AB,AE] at he hc
       (repeat' (first|refine ctQ rfl ?_|((first|refine rgQ mxQ ?_|refine cdQ ?_|refine Run.FT C4 (AK.le_refl _) ?_|(refine AD.mk rfl hc ?_;rintro _ _ ⟨rfl,z,rfl⟩)|refine AD.det (h1) ?_|refine AD.det (h2) ?_)<;>try simp -implicitDefEqProofs only [B1 hlt,he,hws,AJ,go_sem])|fail))
       refine hno z ?_
       rw [hres,hs];split<;>rfl
   · rw [A8 (by omega)] at hok hab
     (repeat' (first|refine ctQ rfl ?_|((first|refine rgQ mxQ ?_|refine cdQ ?_|refine Run.FT C4 (AK.le_refl _) ?_)<;>try simp -implicitDefEqProofs only [Ff hlt,AJ,go_sem])|fail))
     exact hyes p (by rw [hres,hab,if_pos rfl,hok])
end Go.Ab
namespace Go.Ab
open Go.Proofs
def qW (nm nu nn na:Bool) (lo hi:Nat) (n:Str) (u:Int) (a k b:Nat):Bool:=
 (nm||n==[])&&(nu||u==0)&&(nn||decide (a=0))&&(na||decide (b=0))&&decide (lo≤k)&&decide (k≤hi)
set_option maxHeartbeats 4000000 in
theorem wS (o:Int) (n:Str) (u:Int) (ns:List Str) (ks:List Ex) (al:List Al) (d j:Nat) (σ:AK) (nm nu nn na:Bool) (lo hi:Nat):
 BN Tryz.prog (Cut [1,2,3,201] (put 1 (.d (.int .i64 ((d+1:Nat):Int))) (put 2 (.gp j 0) (put 3 (.lp 3 0) (put 201 (.d (.bool (!qW nm nu nn na lo hi n u ns.length ks.length al.length))) U)))) (Aq 3 [.d (.int .i64 o),.d (.str n),.d (.int .i64 u),.d (.sl (ns.map Br)),.d (.sl (ks.map Ex.enc)),.d (.sl (al.map Al.enc))] E) σ)
  [⟨some 152,.mv (.t 7),none⟩,⟨some 153,.un .not (.t 152),none⟩,⟨some 154,.mv (.t 153),none⟩,⟨some 155,.fld (.t 3) 1,some (154,true)⟩,⟨some 156,.ldl (.t 155) none,some (154,true)⟩,⟨some 157,.bin .neq (.t 156) (.c (.d (.str []))),some (154,true)⟩,⟨some 158,.pick (.t 154) (.t 157) (.c (.d (.bool false))),none⟩,⟨some 159,.mv (.t 158),none⟩,⟨some 160,.mv (.t 8),some (159,false)⟩,⟨some 161,.un .not (.t 160),some (159,false)⟩,⟨some 162,.mv (.t 161),some (159,false)⟩,⟨some 163,.fld (.t 3) 2,some (162,true)⟩,⟨some 164,.ldl (.t 163) none,some (162,true)⟩,⟨some 165,.bin .neq (.t 164) (.c (.d (.int .i64 0))),some (162,true)⟩,⟨some 166,.pick (.t 162) (.t 165) (.c (.d (.bool false))),some (159,false)⟩,⟨some 167,.pick (.t 159) (.c (.d (.bool true))) (.t 166),none⟩,⟨some 168,.mv (.t 167),none⟩,⟨some 169,.mv (.t 9),some (168,false)⟩,⟨some 170,.un .not (.t 169),some (168,false)⟩,⟨some 171,.mv (.t 170),some (168,false)⟩,⟨some 172,.fld (.t 3) 3,some (171,true)⟩,⟨some 173,.ldl (.t 172) none,some (171,true)⟩,⟨some 174,.len (.t 173),some (171,true)⟩,⟨some 175,.bin .gtr (.t 174) (.c (.d (.int .i64 0))),some (171,true)⟩,⟨some 176,.pick (.t 171) (.t 175) (.c (.d (.bool false))),some (168,false)⟩,⟨some 177,.pick (.t 168) (.c (.d (.bool true))) (.t 176),none⟩,⟨some 178,.mv (.t 177),none⟩,⟨some 179,.mv (.t 10),some (178,false)⟩,⟨some 180,.un .not (.t 179),some (178,false)⟩,⟨some 181,.mv (.t 180),some (178,false)⟩,⟨some 182,.fld (.t 3) 5,some (181,true)⟩,⟨some 183,.ldl (.t 182) none,some (181,true)⟩,⟨some 184,.len (.t 183),some (181,true)⟩,⟨some 185,.bin .gtr (.t 184) (.c (.d (.int .i64 0))),some (181,true)⟩,⟨some 186,.pick (.t 181) (.t 185) (.c (.d (.bool false))),some (178,false)⟩,⟨some 187,.pick (.t 178) (.c (.d (.bool true))) (.t 186),none⟩,⟨some 188,.mv (.t 187),none⟩,⟨some 189,.fld (.t 3) 4,some (188,false)⟩,⟨some 190,.ldl (.t 189) none,some (188,false)⟩,⟨some 191,.len (.t 190),some (188,false)⟩,⟨some 192,.mv (.t 11),some (188,false)⟩,⟨some 193,.bin .lss (.t 191) (.t 192),some (188,false)⟩,⟨some 194,.pick (.t 188) (.c (.d (.bool true))) (.t 193),none⟩,⟨some 195,.mv (.t 194),none⟩,⟨some 196,.fld (.t 3) 4,some (195,false)⟩,⟨some 197,.ldl (.t 196) none,some (195,false)⟩,⟨some 198,.len (.t 197),some (195,false)⟩,⟨some 199,.mv (.t 12),some (195,false)⟩,⟨some 200,.bin .gtr (.t 198) (.t 199),some (195,false)⟩,⟨some 201,.pick (.t 195) (.c (.d (.bool true))) (.t 200),none⟩]
  (put 1 (.d (.int .i64 ((d+1:Nat):Int))) (put 2 (.gp j 0) (put 3 (.lp 3 0) (put 7 (.d (.bool nm)) (put 8 (.d (.bool nu)) (put 9 (.d (.bool nn)) (put 10 (.d (.bool na)) (put 11 (.d (.int .i64 (lo:Nat))) (put 12 (.d (.int .i64 (hi:Nat))) U))))))))) (Aq 3 [.d (.int .i64 o),.d (.str n),.d (.int .i64 u),.d (.sl (ns.map Br)),.d (.sl (ks.map Ex.enc)),.d (.sl (al.map Al.enc))] E) σ:=by
 have fin:∀(b c:Bool),(b=true↔c=true)→∀(a1 a2 a3:AV),(put 1 a1 (put 2 a2 (put 3 a3 (put 201 (.d (.bool b)) U))))=put 1 a1 (put 2 a2 (put 3 a3 (put 201 (.d (.bool c)) U))):=fun b c h a1 a2 a3=>by rw [Ds.2 h]
 simp -implicitDefEqProofs only [go_sem]
 (repeat' (first|refine ctQ rfl ?_|(refine hU (by first|exact GV.t|exact GV.f|exact GV.st|exact GV.sf) ⟨?_,fun h=>?_,?_⟩;rotate_left;(focus ((try simp only [AR] at h);simp -implicitDefEqProofs only [go_sem];first|exact Is.mk|exact Is.pv (by simp -implicitDefEqProofs only [h,eU,↓Zz,AJ,B0,gtN,go_sem];rfl)));(try simp -implicitDefEqProofs only [pU,↓Zz,↓pL,go_sem]))|((first|refine rgQ mxQ ?_|refine cdQ ?_)<;>try simp -implicitDefEqProofs only [pU,ADP,ADQ,↓Zz,↓pL,↓v8,AJ,B0,gtN,ltN,go_sem])|fail))
 refine fin _ _ ?_ _ _ _
 simp only [qW]
 simp [bne]
 grind
set_option maxHeartbeats 8000000 in
theorem Y1 (j:Nat):∀(d q:Nat),d≤40→q≤600→∀(e:Ex) (σ:AK),σ.blk j=some [.d (.int .i64 (Gw q))]→
 AP Tryz.prog 57 [exA e,.d (.int .i64 (d:Int)),.gp j 0] σ (VXQ Gw j d q e σ):=by
 intro d
 induction d with
 |zero=>
  intro q _ hq e σ hj
  obtain ⟨o,n,u,ns,ks,al⟩:=e
  refine Sd (by simp) ?_
  rw [Hw,exA,Ex.AS]
  have h0:(((0:Nat):Int)==0)=true:=by decide
  (repeat' (first|refine ctQ rfl ?_|((first|refine rgQ mxQ ?_|refine cdQ ?_|refine Run.FT C4 (AK.le_refl _) ?_)<;>try simp -implicitDefEqProofs only [h0,go_sem])|fail))
  exact ⟨false,Gw q,rfl,(JA hj).symm,rfl,fun r h=>by cases h⟩
 |succ d ihd=>
  intro q hd hq e σ hj
  obtain ⟨o,n,u,ns,ks,al⟩:=e
  refine Sd (by simp) ?_
  rw [Hw,exA,Ex.AS]
  have h0:(((d+1:Nat):Int)==0)=false:=by simp only [beq_eq_false_iff_ne,ne_eq];omega
  cases q with
  |zero=>
   have hz:(Gw 0==0)=true:=by decide
   (repeat' (first|refine ctQ rfl ?_|((first|refine rgQ mxQ ?_|refine cdQ ?_|refine Run.FT C4 (AK.le_refl _) ?_)<;>try simp -implicitDefEqProofs only [h0,hj,hz,go_sem])|fail))
   exact ⟨false,Gw 0,rfl,(JA hj).symm,rfl,fun r h=>by cases h⟩
  |succ q=>
  have hz:(Gw (q+1)==0)=false:=by simp only [Gw,beq_eq_false_iff_ne,ne_eq];omega
  have hwq:IntKind.i64.wrap (Gw (q+1) - 1)=Gw q:=VU (by omega)
  have hL:=fun h=>wT j d q (fun q hq e σ h=>ihd q (by omega) hq e σ h) (by omega) (by omega) o n u ns ks al σ h
  have hbt:=Iz ns true (σ.AH j [.d (.int .i64 (Gw q))])
  have hbf:=Iz ns false (σ.AH j [.d (.int .i64 (Gw q))])
  have hfail:Xt o n u ns ks.length al.length=false→VXQ Gw j (d+1) (q+1) (.mk o n u ns ks al) σ (.d (.bool false)) (σ.AH j [.d (.int .i64 (Gw q))]):=fun h=>
   have hr:vEx (d+1) (q+1) (.mk o n u ns ks al)=none:=by rw [TZ,Xs,h];rfl
   ⟨false,_,rfl,rfl,by rw [hr];rfl,fun r h=>by rw [hr] at h;cases h⟩
  generalize hV:VXQ Gw j (d+1) (q+1) (.mk o n u ns ks al) σ=V at hL hfail
  clear ihd hV
  (repeat' (first|refine Run.cb rfl ?_|((first|refine rgQ mxQ ?_|refine cdQ ?_)<;>try simp -implicitDefEqProofs only [h0,hj,hz,hwq,go_sem])|fail))
  refine Run.AC9 (α:=Bool×Bool×Bool×Bool×Nat×Nat) [1,2,3,7,8,9,10,11,12] (fun a=>put 1 (.d (.int .i64 ((d+1:Nat):Int))) (put 2 (.gp j 0) (put 3 (.lp 3 0) (put 7 (.d (.bool a.1)) (put 8 (.d (.bool a.2.1)) (put 9 (.d (.bool a.2.2.1)) (put 10 (.d (.bool a.2.2.2.1)) (put 11 (.d (.int .i64 (a.2.2.2.2.1:Nat))) (put 12 (.d (.int .i64 (a.2.2.2.2.2:Nat))) U))))))))) (Aq 3 [.d (.int .i64 o),.d (.str n),.d (.int .i64 u),.d (.sl (ns.map Br)),.d (.sl (ks.map Ex.enc)),.d (.sl (al.map Al.enc))] E) (σ.AH j [.d (.int .i64 (Gw q))]) (fun a=>Xt o n u ns ks.length al.length=qW a.1 a.2.1 a.2.2.1 a.2.2.2.1 a.2.2.2.2.1 a.2.2.2.2.2 n u ns.length ks.length al.length) ?_ ?_
  · rintro ⟨nm,nu,nn,na,lo,hi⟩ hI
    simp only at hI ⊢
    (repeat (first
    |refine Run.seq ?_
    |refine Run.skip ?_
    |refine Run.block ?_
    |refine Run.blk ?_
    |refine Run.scope ?_
    |refine Run.scp ?_
    |(refine Run.exit rfl ?_)))
    refine Run.ADM mixed (put 1 (.d (.int .i64 ((d+1:Nat):Int))) (put 2 (.gp j 0) (put 3 (.lp 3 0) (put 201 (.d (.bool (!qW nm nu nn na lo hi n u ns.length ks.length al.length))) U)))) (Aq 3 [.d (.int .i64 o),.d (.str n),.d (.int .i64 u),.d (.sl (ns.map Br)),.d (.sl (ks.map Ex.enc)),.d (.sl (al.map Al.enc))] E) (σ.AH j [.d (.int .i64 (Gw q))]) ?_ ?_
    · exact wS o n u ns ks al d j _ nm nu nn na lo hi
    · cases hc:qW nm nu nn na lo hi n u ns.length ks.length al.length with
      |true=>
       (repeat' (first|refine ctQ rfl ?_|((first|refine rgQ mxQ ?_|refine cdQ ?_)<;>try simp -implicitDefEqProofs only [go_sem])|fail))
       exact hL (hI.trans hc)
      |false=>
       (repeat' (first|refine ctQ rfl ?_|((first|refine rgQ mxQ ?_|refine cdQ ?_|refine Run.FT C4 (AK.le_refl _) ?_)<;>try simp -implicitDefEqProofs only [go_sem])|fail))
       exact hfail (hI.trans hc)
  · intro hrest
    clear hL
    have key:=fun (F':Fm) (L':Lm) (nm nu nn na:Bool) (lo hi:Nat) h1 h2 h3=>hrest F' L' (nm,nu,nn,na,lo,hi) h1 h2 h3
    simp only at key
    clear hrest
    have fin:∀b c:Bool,(b=true↔c=true)→b=c:=fun b c h=>Ds.2 h
    by_cases ho:o=1∨o=2∨o=3∨o=4∨o=5∨o=6∨o=7∨o=8∨o=9∨o=10∨o=11∨o=12∨o=13∨o=14∨o=15∨o=16∨o=17
    · rcases ho with rfl|rfl|rfl|rfl|rfl|rfl|rfl|rfl|rfl|rfl|rfl|rfl|rfl|rfl|rfl|rfl|rfl
      all_goals (repeat' (first|(refine key _ _ ?_ ?_ ?_ ?_ ?_ ?_ ?_ ?_ ?_;rotate_left 6;(focus (simp only [go_sem];rfl));(focus (simp only [go_sem])))|refine ctQ rfl ?_|(refine hU (by first|exact GV.t|exact GV.f|exact GV.st|exact GV.sf) ⟨?_,fun h=>?_,?_⟩;rotate_left;(focus ((try simp only [AR,Bool.not_not] at h);simp -implicitDefEqProofs only [go_sem];first|exact Is.mk|exact Is.pv (by simp -implicitDefEqProofs only [h,eU,go_sem];rfl)|(refine AD.det (DU _ _ _) ?_;exact Is.mk)|(refine AD.det (Mo _ _) ?_;exact Is.mk)|(refine AD.det (hbt) ?_;exact Is.mk)|(refine AD.det (hbf) ?_;exact Is.mk)|(refine AD.lQ (by simp only [h,eU];rfl) ?_;first|(refine AD.det (DU _ _ _) ?_;exact Is.mk)|(refine AD.det (Mo _ _) ?_;exact Is.mk)|(refine AD.det (hbt) ?_;exact Is.mk)|(refine AD.det (hbf) ?_;exact Is.mk))));(try simp -implicitDefEqProofs only [↓Zz,↓pL,go_sem]))|((first|refine rgQ mxQ ?_|refine cdQ ?_|refine Run.FT C4 (AK.le_refl _) ?_|refine AD.det (DU _ _ _) ?_|refine AD.det (Mo _ _) ?_|refine AD.det (hbt) ?_|refine AD.det (hbf) ?_)<;>try simp -implicitDefEqProofs only [As,AJ,Jl,go_sem])|(refine ⟨fun h=>?_,fun h=>?_⟩<;>first|(cases h;done)|try simp only [h])|fail))
      all_goals clear key
      all_goals (try refine hfail ?_)
      all_goals clear hfail hbt hbf hj hz hwq h0
      all_goals (refine fin _ _ ?_;simp [Xt,qW,nmB,nuB,nsB,nkB,EE,upperB,KA,SS,QC, *] at *;try grind)
    · have hn:Xt o n u ns ks.length al.length=false:=by
       simp only [not_or] at ho
       simp [Xt,nkB,ho]
      simp only [not_or] at ho
      obtain ⟨h1,h2,h3,h4,h5,h6,h7,h8,h9,h10,h11,h12,h13,h14,h15,h16,h17⟩:=ho
      (repeat' (first|refine ctQ rfl ?_|((first|refine rgQ mxQ ?_|refine cdQ ?_|refine Run.FT C4 (AK.le_refl _) ?_)<;>try simp -implicitDefEqProofs only [Ch h1,Ch h2,Ch h3,Ch h4,Ch h5,Ch h6,Ch h7,Ch h8,Ch h9,Ch h10,Ch h11,Ch h12,Ch h13,Ch h14,Ch h15,Ch h16,Ch h17,go_sem])|fail))
      exact hfail hn
end Go.Ab
namespace Go.Ab
open Go.Proofs
def pX (c:CE):Prop:=∀t∈c.args,t.size≤1000000
def gT (d:DE):Prop:=∀c∈d.cons,pX c
theorem ACO {b c:Bool} (h:b=true↔c=true):AV.d (.bool b)=AV.d (.bool c):=by rw [Ds.2 h]
theorem Xc (t:TE) (σ:AK) (h:t.size≤1000000):AP Tryz.prog 105 [teA t] σ (fun v σ'=>v= .d (.bool (Cq 40 t))∧σ'=σ):=by
 refine QZ (by simp) ?_
 rw [Ar]
 have hc:=UI 40 (A4 _) t σ h
 rw [show ((41 - 40:Nat):Int)=1 from rfl] at hc
 obtain ⟨k,n,l⟩:=t
 simp only [TE.AS,teA,AB,AE] at hc ⊢
 (repeat' (first|refine ctQ rfl ?_|((first|refine rgQ mxQ ?_|refine cdQ ?_|refine Run.A2 J9 (AK.le_refl _) ?_|refine AD.det (hc) ?_)<;>try simp -implicitDefEqProofs only [go_sem])|fail))
theorem bY (c:CE) (σ:AK) (h:pX c):AP Tryz.prog 103 [ceA c] σ (fun v σ'=>v= .d (.bool (Vg c))∧σ'=σ):=by
 refine Su (by simp) ?_
 rw [Ar]
 have ha:=MR (fid:=105) (caps:=[]) (by kernel_rfl) rfl (Cq 40) c.args σ (fun t ht σ1 _=>Xc t σ1 (h t ht))
 obtain ⟨nm,ar⟩:=c
 simp only [CE.enc,ceA,AB,AE] at ha ⊢
 have h6:decide ((ar.length:Int)≤6)=decide (ar.length≤6):=leN _ 6
 (repeat' (first|refine ctQ rfl ?_|(refine hU (by first|exact GV.t|exact GV.f|exact GV.st|exact GV.sf) ⟨?_,fun h=>?_,?_⟩;rotate_left;(focus ((try simp only [AR] at h);simp -implicitDefEqProofs only [go_sem];first|exact Is.mk|exact Is.pv (by simp -implicitDefEqProofs only [h,eU,AJ,h6,go_sem];rfl)|(refine AD.det (Bi nm _) ?_;exact Is.mk)|(refine AD.det (ha) ?_;exact Is.mk)|(refine AD.lQ (by simp only [h];rfl) ?_;first|(refine AD.det (Bi nm _) ?_;exact Is.mk)|(refine AD.det (ha) ?_;exact Is.mk))));(try simp -implicitDefEqProofs only [↓Zz,go_sem]))|((first|refine rgQ mxQ ?_|refine cdQ ?_|refine Run.A2 L4 (AK.le_refl _) ?_|refine AD.det (Bi nm _) ?_|refine AD.det (ha) ?_)<;>try simp -implicitDefEqProofs only [go_sem])|fail))
 simp only [Vg]
theorem gZ (d:DE) (σ:AK) (h:gT d):AP Tryz.prog 50 [deA d] σ (fun v σ'=>v= .d (.bool (JY d))∧σ'=σ):=by
 refine Uz (by simp) ?_
 rw [Ar]
 have ha:=IB (fid:=51) (caps:=[]) (by kernel_rfl) rfl EE d.vars σ (fun x _ σ1 _=>Dy x σ1)
 have hc:=Ul (fid:=103) (caps:=[]) (by kernel_rfl) rfl Vg d.cons σ (fun c hc σ1 _=>bY c σ1 (h c hc))
 obtain ⟨nm,vs,cs⟩:=d
 simp only [DE.enc,deA,AB,AE] at ha hc ⊢
 have h6:decide ((6:Int) < (vs.length:Int))=!decide (vs.length≤6):=gtN _ 6
 have h8:decide ((8:Int) < (cs.length:Int))=!decide (cs.length≤8):=gtN _ 8
 have h1:decide ((cs.length:Int) < 1)=decide (cs.length < 1):=ltN _ 1
 (repeat' (first|refine ctQ rfl ?_|(refine hU (by first|exact GV.t|exact GV.f|exact GV.st|exact GV.sf) ⟨?_,fun h=>?_,?_⟩;rotate_left;(focus ((try simp only [Bool.not_not] at h);simp -implicitDefEqProofs only [go_sem];first|exact Is.mk|exact Is.pv (by simp -implicitDefEqProofs only [h,eU,AJ,h6,h8,go_sem];rfl)|(refine AD.det (Bi nm _) ?_;exact Is.mk)|(refine AD.det (ha) ?_;exact Is.mk)|(refine AD.det (hc) ?_;exact Is.mk)|(refine AD.lQ (by simp only [h,eU];rfl) ?_;first|(refine AD.det (Bi nm _) ?_;exact Is.mk)|(refine AD.det (ha) ?_;exact Is.mk)|(refine AD.det (hc) ?_;exact Is.mk))));(try simp -implicitDefEqProofs only [↓pL,↓v8,go_sem]))|((first|refine rgQ mxQ ?_|refine cdQ ?_|refine Run.A2 NT (AK.le_refl _) ?_|refine AD.det (Bi nm _) ?_|refine AD.det (ha) ?_|refine AD.det (hc) ?_)<;>try simp -implicitDefEqProofs only [AJ,h1,go_sem])|(refine ⟨fun h=>?_,fun h=>?_⟩<;>first|(cases h;done)|try simp only [h])|fail))
 all_goals (refine ACO ?_;simp [JY] at *;try grind)
set_option maxHeartbeats 4000000 in
theorem R7 (p:Pg) (σ:AK) (h:∀d∈p.data,gT d):AP Tryz.prog 19 [pgA p] σ (fun v σ'=>v= .d (.bool (DM p))∧σ'=σ):=by
 obtain ⟨ds,fs⟩:=p
 refine Zm (by simp) ?_
 rw [Ar,pgA]
 simp only [Pg.enc,AB,AE] at h ⊢
 have h12:decide ((12:Int) < (ds.length:Int))=!decide (ds.length≤12):=gtN _ 12
 have h24:decide ((24:Int) < (fs.length:Int))=!decide (fs.length≤24):=gtN _ 24
 by_cases hd:ds.length≤12
 case neg=>
  (repeat' (first|refine ctQ rfl ?_|((first|refine rgQ mxQ ?_|refine cdQ ?_|refine Run.A2 DR (AK.le_refl _) ?_)<;>try simp -implicitDefEqProofs only [AJ,h12,decide_eq_false hd,go_sem])|fail))
  simp [DM,hd]
 by_cases hf:fs.length≤24
 case neg=>
  (repeat' (first|refine ctQ rfl ?_|((first|refine rgQ mxQ ?_|refine cdQ ?_|refine Run.A2 DR (AK.le_refl _) ?_)<;>try simp -implicitDefEqProofs only [AJ,h12,decide_eq_true hd,h24,decide_eq_false hf,go_sem])|fail))
  simp [DM,hf]
 have hres:DM ⟨ds,fs⟩=(ds.all JY&&(fs.foldlM RJ 600).isSome):=by simp [DM,hd,hf]
 (repeat' (first|refine ctQ rfl ?_|((first|refine rgQ mxQ ?_|refine cdQ ?_)<;>try simp -implicitDefEqProofs only [AJ,h12,decide_eq_true hd,h24,decide_eq_true hf,go_sem])|fail))
 refine Run.BU ?_
 refine Run.BZ ((fun (a1:AV) (a19:AV) (a20:AV)=>fun (i:Nat)=>put 1 a1 (put 19 a19 (put 20 a20 (put 21 (.d (.int .i64 i)) U)))) _ _ _) (fun _=>Aq 1 [.d (.sl (ds.map DE.enc)),.d (.sl (fs.map FE.enc))] E) (fun _=>σ) (fun i=>i≤ds.length∧(ds.take i).all JY=true) (fun i=>ds.length - i) ?_ 0 ⟨by simp,by simp⟩
 rintro i ⟨hi,hok⟩ ih
 by_cases hlt:i < ds.length
 · obtain ⟨x,hx⟩:=CF hlt
   have he:=Bq (enc:=DE.enc) hx
   have hw1:=BV (show i+1≤9000000000000000000 by omega)
   have hc:=gZ x σ (h x (Aa hx))
   cases hp:JY x with
   |true=>
    have hs:=Kv hok hx hp
    rw [hp] at hc
    obtain ⟨nm,vs,cs⟩:=x
    simp only [DE.enc,deA,AB,AE] at he hc
    (repeat' (first|refine ctQ rfl ?_|((first|refine rgQ mxQ ?_|refine cdQ ?_|refine AD.det (hc) ?_)<;>try simp -implicitDefEqProofs only [B1 hlt,he,hw1,go_sem])|fail))
    exact ih (i+1) ⟨by omega,hs⟩ (by omega)
   |false=>
    have hs:=ZO (p:=JY) hx hp
    rw [hp] at hc
    obtain ⟨nm,vs,cs⟩:=x
    simp only [DE.enc,deA,AB,AE] at he hc
    (repeat' (first|refine ctQ rfl ?_|((first|refine rgQ mxQ ?_|refine cdQ ?_|refine Run.A2 DR (AK.le_refl _) ?_|refine AD.det (hc) ?_)<;>try simp -implicitDefEqProofs only [B1 hlt,he,go_sem])|fail))
    rw [hres,hs];rfl
 · rw [A8 (by omega)] at hok
   rw [hok,Bg] at hres
   clear ih
   (repeat' (first|refine ctQ rfl ?_|((first|refine rgQ mxQ ?_|refine cdQ ?_)<;>try simp -implicitDefEqProofs only [Ff hlt,go_sem])|fail))
   intro j hj
   have hle:=FO (cs:=[AV.d (.int .i64 0)]) hj
   (repeat' (first|refine ctQ rfl ?_|((first|refine rgQ mxQ ?_|refine cdQ ?_)<;>try simp -implicitDefEqProofs only [AJ,go_sem])|fail))
   refine Run.BU ?_
   refine Run.BZ ((fun (a5:AV) (a32:AV) (a33:AV)=>fun (y:Nat×Nat)=>put 5 a5 (put 32 a32 (put 33 a33 (put 34 (.d (.int .i64 y.1)) U)))) _ _ _) (fun _=>E) (fun y=>σ.AH j [.d (.int .i64 (Mf y.2))])
    (fun y=>y.1≤fs.length∧y.2≤600∧(fs.take y.1).foldlM RJ 600=some y.2) (fun y=>fs.length - y.1) ?_ (0,600) ⟨by simp,by simp,rfl⟩
   rintro ⟨i,q⟩ ⟨hi,hq,hok⟩ ih
   simp only at hi hq hok
   by_cases hlt:i < fs.length
   · obtain ⟨x,hx⟩:=CF hlt
     have he:=Bq (enc:=FE.enc) hx
     have hw1:=BV (show i+1≤9000000000000000000 by omega)
     have hnm:=Dy x.name (σ.AH j [.d (.int .i64 (Mf q))])
     have hps:=IB (fid:=51) (caps:=[]) (by kernel_rfl) rfl EE x.params (σ.AH j [.d (.int .i64 (Mf q))]) (fun x _ σ1 _=>Dy x σ1)
     have h6:decide ((6:Int) < (x.params.length:Int))=!decide (x.params.length≤6):=gtN _ 6
     have hc:=YP j 40 q (A4 _) hq x.body (σ.AH j [.d (.int .i64 (Mf q))]) (by simp only [AZ,if_true])
     rw [show ((41 - 40:Nat):Int)=1 from rfl] at hc
     have hno:RJ q x=none→fs.foldlM RJ 600=none:=fun h=>K6 hok hx h
     have hyes:∀r,RJ q x=some r→(fs.take (i+1)).foldlM RJ 600=some r:=fun r h=>by rw [K7 hok hx,h]
     have hvf:RJ q x=if EE x.name&&decide (x.params.length≤6)&&x.params.all EE then vEx 40 q x.body else none:=rfl
     cases h1:EE x.name with
     |false=>
      rw [h1] at hnm hvf
      obtain ⟨nm,ps,o,n,u,ns,ks,al⟩:=x
      simp only [FE.enc,Ex.AS] at he hnm
      (repeat' (first|refine ctQ rfl ?_|((first|refine rgQ mxQ ?_|refine cdQ ?_|(refine Run.A2 DR (σ2:=σ) (FO hj) ?_)|refine AD.det (hnm) ?_)<;>try simp -implicitDefEqProofs only [B1 hlt,he,go_sem])|fail))
      rw [hres,hno hvf];rfl
     |true=>
     by_cases h2:x.params.length≤6
     case neg=>
      rw [decide_eq_false h2] at h6
      rw [h1,decide_eq_false h2] at hvf
      rw [h1] at hnm
      obtain ⟨nm,ps,o,n,u,ns,ks,al⟩:=x
      simp only [FE.enc,Ex.AS] at he hnm h6
      (repeat' (first|refine ctQ rfl ?_|((first|refine rgQ mxQ ?_|refine cdQ ?_|(refine Run.A2 DR (σ2:=σ) (FO hj) ?_)|refine AD.det (hnm) ?_)<;>try simp -implicitDefEqProofs only [B1 hlt,he,AJ,h6,go_sem])|fail))
      rw [hres,hno hvf];rfl
     rw [decide_eq_true h2] at h6
     cases h3:x.params.all EE with
     |false=>
      rw [h1,h3] at hvf
      rw [G6] at hvf
      rw [h1] at hnm
      rw [h3] at hps
      obtain ⟨nm,ps,o,n,u,ns,ks,al⟩:=x
      simp only [FE.enc,Ex.AS] at he hnm h6 hps
      (repeat' (first|refine ctQ rfl ?_|((first|refine rgQ mxQ ?_|refine cdQ ?_|(refine Run.A2 DR (σ2:=σ) (FO hj) ?_)|refine AD.det (hnm) ?_|refine AD.det (hps) ?_)<;>try simp -implicitDefEqProofs only [B1 hlt,he,AJ,h6,go_sem])|fail))
      rw [hres,hno hvf];rfl
     |true=>
     rw [h1,h3,decide_eq_true h2] at hvf
     rw [h1] at hnm
     rw [h3] at hps
     cases hv:vEx 40 q x.body with
     |some r=>
      have hr:=TY _ _ _ _ hv
      rw [hv] at hvf
      have hc:=VXQ.yes hc hv
      have hs:=hyes r hvf
      obtain ⟨nm,ps,o,n,u,ns,ks,al⟩:=x
      simp only [FE.enc,Ex.AS,exA,AB,AE] at he hnm h6 hps hc
      (repeat' (first|refine ctQ rfl ?_|((first|refine rgQ mxQ ?_|refine cdQ ?_|(refine AD.mk rfl hc ?_;rintro _ _ ⟨rfl,rfl⟩)|refine AD.det (hnm) ?_|refine AD.det (hps) ?_)<;>try simp -implicitDefEqProofs only [B1 hlt,he,hw1,AJ,h6,go_sem])|fail))
      exact ih (i+1,r) ⟨by simp only;omega,by simp only;omega,hs⟩ (by simp only;omega)
     |none=>
      rw [hv] at hvf
      have hc:=VXQ.no hc hv
      obtain ⟨nm,ps,o,n,u,ns,ks,al⟩:=x
      simp only [FE.enc,Ex.AS,exA,AB,AE] at he hnm h6 hps hc
      (repeat' (first|refine ctQ rfl ?_|((first|refine rgQ mxQ ?_|refine cdQ ?_|(refine AD.mk rfl hc ?_;rintro _ _ ⟨rfl,z,rfl⟩)|(refine Run.A2 DR (σ2:=σ) (FO hj) ?_)|refine AD.det (hnm) ?_|refine AD.det (hps) ?_)<;>try simp -implicitDefEqProofs only [B1 hlt,he,AJ,h6,go_sem])|fail))
      rw [hres,hno hvf];rfl
   · rw [A8 (by omega)] at hok
     (repeat' (first|refine ctQ rfl ?_|((first|refine rgQ mxQ ?_|refine cdQ ?_|(refine Run.A2 DR (σ2:=σ) (FO hj) ?_))<;>try simp -implicitDefEqProofs only [Ff hlt,go_sem])|fail))
     rw [hres,hok];rfl
end Go.Ab
