/- Reference scope: resolve. Reference scope: Data, the arguments of a constructor. Reference scope: Data, the constructors of a declaration. Reference scope: Data. Conditions: none. -/
import Derived.Test.YtlckhmkeihbhmaaGreatXYc
set_option linter.unusedSimpArgs false
set_option linter.unusedVariables false
set_option maxRecDepth 4000
set_option maxHeartbeats 8000000
open List renaming getElem?_cons_zero→Ks,map_cons→AG,map_nil→AQ,length_map→AA,getElem?_map→Ag,getElem?_eq_some_iff→AR,getD_eq_getElem?_getD→Ap,take_append_drop→A3,mem_of_getElem?→AT,all_cons→BP,all_nil→Cp,take_of_length_le→AK,map_append→Kg,append_assoc→Ae,mem_append_left→Nb,mem_cons_of_mem→B6,mem_cons_self→BG,flatMap_cons→Lb,length_append→AS,length_cons→A9,length_take→Ai,getElem?_take→BF,mem_of_mem_take→Bg
open Option.some renaming injEq→AJ
open Bool renaming and_false→Bm,eq_iff_iff→Af,and_true→As,true_and→Au,false_eq_true→AY,true_or→JO,false_or→DL
open Int renaming reduceBEq→AU
open Option renaming map_eq_some_iff→AD,isSome_some→Bn,isSome_none→CC
open Nat renaming lt_or_ge→Bt,le_refl→A0,succ_mul→JQ,mul_le_mul_right→BQ,min_eq_left→CO
open Except renaming map→CP
namespace Go.Ab
open Go.Proofs
theorem SZ:∀ {l:List TE} {vs:List Str},l.length=vs.length→(∀(j:Nat) (t:TE) (v:Str),l[j]?=some t→vs[j]?=some v→UG t v=true)→Ea l vs=true
 |[],[],_,_=>rfl
 |[],v::vs,h,_=>by simp at h
 |t::l,[],h,_=>by simp at h
 |t::l,v::vs,h,hp=>by
  rw [Hh,hp 0 t v rfl rfl,SZ (by simpa using h) (fun j t' v' h1 h2=>hp (j+1) t' v' h1 h2)]
  rfl
theorem QE:∀ {l:List TE} {vs:List Str} {j:Nat} {t:TE} {v:Str},l[j]?=some t→vs[j]?=some v→UG t v=false→Ea l vs=false
 |[],vs,j,t,v,h,_,_=>by simp at h
 |t::l,[],j,t',v,_,h,_=>by simp at h
 |t::l,v::vs,0,t',v',h1,h2,h=>by
  simp only [Ks,AJ] at h1 h2
  subst h1;subst h2
  rw [Hh,h];rfl
 |t::l,v::vs,j+1,t',v',h1,h2,h=>by
  rw [Hh,QE (j:=j) (by simpa using h1) (by simpa using h2) h,Bm]
structure dX (ps:List DE) (ds:List (Str×Nat)) (vars:List Str):Prop where
 at':∀(i:Nat) (x:Str×Nat),ds[i]?=some x→∃d:DE,ps[i]?=some d∧d.vars.length=x.2
 last:∀x:Str×Nat,ds[ds.length - 1]?=some x→x.2=vars.length
 ne:ds.length≤1000000
theorem V4 (ps:List DE) (fs:List FE) (ds:List (Str×Nat)) (vars:List Str) (hh:dX ps ds vars):
 ∀(N:Nat) (t:TE) (whole:Bool) (τ:AF),t.size≤N→t.size≤1000000→AL Tryz.prog 60 [pgA ⟨ps,fs⟩,.d (.sl ((ds.map (·.1)).map Aw)),.d (.sl (vars.map Aw)),teA t,.d (.bool whole)] τ (fun v σ'=>v=OR (Hi ds vars whole t)∧σ'=τ):=by
 intro N
 induction N with
 |zero=>intro t whole τ h;have:=TE.size_pos t;omega
 |succ N ihN=>
 rintro ⟨k,n,l⟩ whole τ hN hsz
 simp only [TE.size] at hN hsz
 have hlen:=TE.C8 l
 have hloop:=fun num=>Sr ps fs ds vars k num n l τ (by omega) (fun x hx τ'=>by
  have:=TE.J0 hx
  exact ihN x false τ' (by omega) (by omega))
 clear ihN
 refine W9 (by simp) ?_
 rw [eG,teA,TE.A4]
 simp only [pgA,Pg.enc,AG,AQ]
 by_cases h4:k=4
 · subst h4
   have hres:Hi ds vars whole (.mk 4 n l)=match Ct vars n with|none=>.error 3|some i=>(Cf ds vars l).map (Ty.mk 4 i):=by
    rw [Hi,if_pos rfl];rfl
   have hi:=QI vars n τ
   cases hix:Ct vars n with
   |none=>
    rw [hix] at hi hres
    simp only [E9] at hi hres
    have hneg:decide ((-1:Int) < 0)=true:=by decide
    (repeat' (first|refine Run.ct rfl ?_|((first|refine Run.reg mixed ?_|refine Run.AE ?_|refine Run.A1 EE (AF.le_refl _) ?_|refine AI.det (hi) ?_)<;>try simp -implicitDefEqProofs only [AU,hneg,go_sem])|fail))
    rw [hres];rfl
   |some i=>
    rw [hix] at hi hres
    simp only [E9] at hi hres
    have hneg:decide ((i:Int) < 0)=false:=decide_eq_false (by omega)
    rw [hres]
    (repeat' (first|refine Run.ct rfl ?_|((first|refine Run.reg mixed ?_|refine Run.AE ?_|refine AI.det (hi) ?_)<;>try simp -implicitDefEqProofs only [AU,hneg,AA,go_sem])|fail))
    exact hloop i
 by_cases h5:k=5
 · subst h5
   have hres:Hi ds vars whole (.mk 5 n l)=match Ct (ds.map (·.1)) n with|none=>.error 3|some i=>if l.length≠(ds.getD i ([],0)).2 then .error 5 else if i+1=ds.length∧¬(whole=true∧Ea l vars=true) then .error 7 else (Cf ds vars l).map (Ty.mk 5 i):=by
    rw [Hi,if_neg h4,if_pos rfl];rfl
   have hf:=QI (ds.map (·.1)) n τ
   cases hix:Ct (ds.map (·.1)) n with
   |none=>
    rw [hix] at hf hres
    simp only [E9] at hf hres
    have hneg:decide ((-1:Int) < 0)=true:=by decide
    (repeat' (first|refine Run.ct rfl ?_|((first|refine Run.reg mixed ?_|refine Run.AE ?_|refine Run.A1 EE (AF.le_refl _) ?_|refine AI.det (hf) ?_)<;>try simp -implicitDefEqProofs only [AU,hneg,go_sem])|fail))
    rw [hres];rfl
   |some i=>
    have hsp:=Oe hix
    rw [Ag,AD] at hsp
    obtain ⟨x,hx,hxn⟩:=hsp
    obtain ⟨d,hd,hdv⟩:=hh.at' i x hx
    have hil:=(AR.1 hx).1
    have hgd:ds.getD i ([],0)=x:=by rw [Ap,hx];rfl
    rw [hix] at hf hres
    simp only [E9,hgd] at hf hres
    have hneg:decide ((i:Int) < 0)=false:=decide_eq_false (by omega)
    have hed:=BA (enc:=DE.enc) hd
    obtain ⟨dn,dvs',dc⟩:=d
    simp only [DE.enc] at hed hdv
    have hcmp:((l.length:Int) != (dvs'.length:Int))=decide (l.length≠x.2):=by
     rw [Af];simp only [bne_iff_ne,ne_eq,decide_eq_true_eq];omega
    by_cases hA:l.length≠x.2
    · rw [decide_eq_true hA] at hcmp
      rw [if_pos hA] at hres
      (repeat' (first|refine Run.ct rfl ?_|((first|refine Run.reg mixed ?_|refine Run.AE ?_|refine Run.A1 EE (AF.le_refl _) ?_|refine AI.det (hf) ?_)<;>try simp -implicitDefEqProofs only [AU,hneg,AA,hed,hcmp,go_sem])|fail))
      rw [hres];rfl
    · rw [decide_eq_false hA] at hcmp
      rw [if_neg hA] at hres
      have hdl:=hh.ne
      have hw1:IntKind.i64.wrap ((ds.length:Int) - 1)=((ds.length - 1:Nat):Int):=by rw [BL (by omega) (by omega)];omega
      have hlast:((i:Int)==((ds.length - 1:Nat):Int))=decide (i+1=ds.length):=by
       rw [Af];simp only [beq_iff_eq,decide_eq_true_eq];omega
      by_cases hB:i+1=ds.length
      · rw [decide_eq_true hB] at hlast
        have hlv:l.length=vars.length:=by
         have:=hh.last x (by rw [show ds.length - 1=i by omega];exact hx)
         omega
        (repeat' (first|refine Run.ct rfl ?_|((first|refine Run.reg mixed ?_|refine Run.AE ?_|refine AI.det (hf) ?_)<;>try simp -implicitDefEqProofs only [AU,hneg,AA,hed,hcmp,hw1,hlast,go_sem])|fail))
        refine Run.BD ?_
        refine Run.BK ((fun (a1:AV) (a2:AV) (a4:AV) (a5:AV) (a8:AV) (a10:AV) (a12:AV)=>fun (j:Nat)=>put 1 a1 (put 2 a2 (put 4 a4 (put 5 a5 (put 8 a8 (put 10 a10 (put 12 a12 (put 13 (.d (.int .i64 j)) U)))))))) _ _ _ _ _ _ _) (fun _=>Az 5 [.d (.sl (ps.map DE.enc)),.d (.sl (fs.map FE.enc))] (Az 8 [.d (.int .i64 5),.d (.str n),.d (.sl (l.map TE.enc))] (Az 10 [.d (.int .i64 0),.d (.int .i64 0),.AZ] (Az 12 [.d (.int .i64 5),.d (.int .i64 i),.AZ] E)))) (fun _=>τ)
         (fun j=>j≤l.length∧∀(q:Nat) (t:TE) (v:Str),q < j→l[q]?=some t→vars[q]?=some v→UG t v=true) (fun j=>l.length - j) ?_ 0 ⟨by simp,fun q _ _ hq=>by omega⟩
        rintro j ⟨hj,hpj⟩ ih2
        by_cases hjl:j < l.length
        · obtain ⟨t,ht⟩:=BC hjl
          obtain ⟨v,hv⟩:=BC (show j < vars.length by omega)
          have het:=BA (enc:=TE.enc) ht
          have hev:=BA (enc:=Aw) hv
          have hwj:=A5 (show j+1≤9000000000000000000 by omega)
          obtain ⟨tk,tn,tl⟩:=t
          simp only [TE.A4,Aw] at het hev
          have hip:UG (.mk tk tn tl) v=(tk==4&&tn==v):=rfl
          by_cases hk4:tk=4
          · subst hk4
            have hn4:((4:Int) != 4)=false:=by decide
            cases hv2:(tn==v) with
            |true=>
             have hvn:(tn != v)=false:=by simpa [bne] using hv2
             (repeat' (first|refine Run.ct rfl ?_|((first|refine Run.reg mixed ?_|refine Run.AE ?_)<;>try simp -implicitDefEqProofs only [Ac hjl,het,hev,hn4,hvn,Cb,hv2,hwj,AA,go_sem])|fail))
             refine ih2 (j+1) ⟨by omega,fun q t' v' hq h1 h2=>?_⟩ (by omega)
             rcases Bt q j with h|h
             · exact hpj q t' v' h h1 h2
             · have:q=j:=by omega
               subst this
               rw [ht] at h1;rw [hv] at h2
               cases h1;cases h2
               rw [hip,hv2];rfl
            |false=>
             have hpb:Ea l vars=false:=QE ht hv (by rw [hip,hv2];rfl)
             rw [if_pos ⟨hB,by simp [hpb]⟩] at hres
             have hvn:(tn != v)=true:=by simp [bne,hv2]
             (repeat' (first|refine Run.ct rfl ?_|((first|refine Run.reg mixed ?_|refine Run.AE ?_|(refine Run.A1 EE (σ2:=τ) (AF.le_refl _) ?_))<;>try simp -implicitDefEqProofs only [Ac hjl,het,hev,hn4,hvn,Cb,hv2,hwj,AA,go_sem])|fail))
             rw [hres];rfl
          · have hn4:(tk != 4)=true:=by simpa using hk4
            have hpb:Ea l vars=false:=QE ht hv (by rw [hip,C1 hk4];rfl)
            rw [if_pos ⟨hB,by simp [hpb]⟩] at hres
            (repeat' (first|refine Run.ct rfl ?_|((first|refine Run.reg mixed ?_|refine Run.AE ?_|(refine Run.A1 EE (σ2:=τ) (AF.le_refl _) ?_))<;>try simp -implicitDefEqProofs only [Ac hjl,het,hev,hn4,hwj,AA,go_sem])|fail))
            rw [hres];rfl
        · have hpb:Ea l vars=true:=SZ hlv (fun q t v h1 h2=>hpj q t v (by have:=(AR.1 h1).1;omega) h1 h2)
          cases whole with
          |false=>
           rw [if_pos ⟨hB,by simp⟩] at hres
           (repeat' (first|refine Run.ct rfl ?_|((first|refine Run.reg mixed ?_|refine Run.AE ?_|(refine Run.A1 EE (σ2:=τ) (AF.le_refl _) ?_))<;>try simp -implicitDefEqProofs only [Bi hjl,AA,go_sem])|fail))
           rw [hres];rfl
          |true=>
           rw [if_neg (by simp [hpb])] at hres
           rw [hres]
           (repeat' (first|refine Run.ct rfl ?_|((first|refine Run.reg mixed ?_|refine Run.AE ?_)<;>try simp -implicitDefEqProofs only [Bi hjl,AA,go_sem])|fail))
           exact hloop i
      · rw [decide_eq_false hB] at hlast
        rw [if_neg (fun h=>hB h.1)] at hres
        rw [hres]
        (repeat' (first|refine Run.ct rfl ?_|((first|refine Run.reg mixed ?_|refine Run.AE ?_|refine AI.det (hf) ?_)<;>try simp -implicitDefEqProofs only [AU,hneg,AA,hed,hcmp,hw1,hlast,go_sem])|fail))
        exact hloop i
 · have hres:Hi ds vars whole (.mk k n l)=(Cf ds vars l).map (Ty.mk k 0):=by rw [Hi,if_neg h4,if_neg h5]
   rw [hres]
   (repeat' (first|refine Run.ct rfl ?_|((first|refine Run.reg mixed ?_|refine Run.AE ?_)<;>try simp -implicitDefEqProofs only [C1 h4,C1 h5,AA,go_sem])|fail))
   exact hloop 0
end Go.Ab
namespace Go.Ab
open Go.Proofs
theorem U1 (ps:List DE) (fs:List FE) (ds:List (Str×Nat)) (vars:List Str) (hh:dX ps ds vars) (t:TE) (hsz:t.size≤1000000) (nv:AV) (hnv:nv.plain= .d (.sl ((ds.map (·.1)).map Aw))) (whole:Bool) (τ:AF):
 AL Tryz.prog 60 [pgA ⟨ps,fs⟩,nv,.d (.sl (vars.map Aw)),teA t,.d (.bool whole)] τ (fun v σ'=>v=OR (Hi ds vars whole t)∧σ'=τ):=by
 refine AL.plain ?_
 have:=V4 ps fs ds vars hh t.size t whole τ (A0 _) hsz
 have hp:∀l:List DV,AV.DI (l.map AV.d)=l.map AV.d:=fun l=>by
  induction l with
  |nil=>rfl
  |cons x l ih=>rw [AG,AV.DI,G0,ih]
 simp only [AV.DI,hnv,G0,pgA,teA,I9,hp]
 exact this
theorem ZV (Q:AV→AF→Prop) (rest:List CI) (ps:List DE) (fs:List FE) (ds:List (Str×Nat)) (dn:Str) (dvs':List Str) (dcs:List CE) (hh:dX ps ds dvs') (cn:Str) (car:List TE) (ci i:Nat) (hc:dcs[ci]?=some ⟨cn,car⟩) (hsm:∀t∈car,t.size≤1000000) (hal:car.length≤1000)
 (σ0 τ:AF) (out nv used a9 b9 consv:AV) (l:List Ow) (hown:G6 σ0 l τ) (hle:σ0.le τ) (hnv:nv.plain= .d (.sl ((ds.map (·.1)).map Aw))) (hnl:nv.BY=true) (hlp:∀k,nv.BO k=false∧out.BO k=false∧used.BO k=false)
 (herr:∀e,Di ds dvs' car= .error e→Q (.tup [.d (.sl []),.agg [.d (.int .i64 e),.d (.int .i64 (-1)),.d (.int .i64 i)]]) σ0)
 (hfin:∀us uv τ',Di ds dvs' car= .ok us→G6 σ0 (⟨57,3,us.map Ty.enc,uv⟩::l) τ'→σ0.le τ'→Run Dk Q rest
   (put 1 (.lp 1 0) (put 3 (.lp 3 0) (put 4 out (put 5 nv (put 6 used (put 7 (.d (.int .i64 i)) (put 8 (.lp 8 0) (put 9 (.lp 9 0) (put 10 (.d (.int .i64 ci)) (put 11 (.lp 11 0) (put 12 (.d (.int .i64 car.length)) (put 96 (.d (.bool false)) U))))))))))))
   (Az 1 [.d (.sl (ps.map DE.enc)),.d (.sl (fs.map FE.enc))] (Az 3 [.d (.int .i64 0),.d (.int .i64 0),.d (.int .i64 0)] (Az 8 [.d (.str dn),.d (.sl (dvs'.map Aw)),.d (.sl (dcs.map CE.enc))] (Az 9 [a9,b9,consv] (Az 11 [.d (.str cn),uv] E))))) τ'):
 Run Dk Q (.code (.loop Q4)::.blk 4::rest)
  (put 1 (.lp 1 0) (put 3 (.lp 3 0) (put 4 out (put 5 nv (put 6 used (put 7 (.d (.int .i64 i)) (put 8 (.lp 8 0) (put 9 (.lp 9 0) (put 10 (.d (.int .i64 ci)) (put 11 (.lp 11 0) (put 12 (.d (.int .i64 0)) U)))))))))))
  (Az 1 [.d (.sl (ps.map DE.enc)),.d (.sl (fs.map FE.enc))] (Az 3 [.d (.int .i64 0),.d (.int .i64 0),.d (.int .i64 0)] (Az 8 [.d (.str dn),.d (.sl (dvs'.map Aw)),.d (.sl (dcs.map CE.enc))] (Az 9 [a9,b9,consv] (Az 11 [.d (.str cn),.AZ] E))))) τ:=by
 have hlp1:=fun k=>(hlp k).1
 have hlp2:=fun k=>(hlp k).2.1
 have hlp3:=fun k=>(hlp k).2.2
 have hec:=BA (enc:=CE.enc) hc
 simp only [CE.enc] at hec
 refine Run.BD ?_
 refine Run.BK ((fun (a1:AV) (a3:AV) (a4:AV) (a5:AV) (a6:AV) (a7:AV) (a8:AV) (a9:AV) (a10:AV) (a11:AV)=>fun (y:Nat×List Ty×AV×AF)=>put 1 a1 (put 3 a3 (put 4 a4 (put 5 a5 (put 6 a6 (put 7 a7 (put 8 a8 (put 9 a9 (put 10 a10 (put 11 a11 (put 12 (.d (.int .i64 y.1)) U))))))))))) _ _ _ _ _ _ _ _ _ _) (fun y=>Az 1 [.d (.sl (ps.map DE.enc)),.d (.sl (fs.map FE.enc))] (Az 3 [.d (.int .i64 0),.d (.int .i64 0),.d (.int .i64 0)] (Az 8 [.d (.str dn),.d (.sl (dvs'.map Aw)),.d (.sl (dcs.map CE.enc))] (Az 9 [a9,b9,consv] (Az 11 [.d (.str cn),y.2.2.1] E))))) (fun y=>y.2.2.2)
  (fun y=>y.1≤car.length∧y.2.1.length=y.1∧Di ds dvs' (car.take y.1)= .ok y.2.1∧G6 σ0 (⟨57,3,y.2.1.map Ty.enc,y.2.2.1⟩::l) y.2.2.2∧σ0.le y.2.2.2) (fun y=>car.length - y.1) ?_ (0,[],.AZ,τ) ⟨by simp,rfl,rfl,hown.nil hle 57 3,hle⟩
 rintro ⟨k,us,uv,τ1⟩ ⟨hk,hlu,hok,ho,hle1⟩ ih2
 simp only at hk hlu hok ho hle1
 have hoh:=ho.head
 simp only at hoh
 by_cases hlt:k < car.length
 · obtain ⟨x,hx⟩:=BC hlt
   have he:=BA (enc:=TE.enc) hx
   have hw1:=A5 (show k+1≤9000000000000000000 by omega)
   have hall:Di ds dvs' car=(Di ds dvs' (x::car.drop (k+1))).map (us++·):=by
    conv=>lhs;rw [← A3 k car,B3 hx]
    exact Lf _ _ _ hok
   have hsn:Di ds dvs' (car.take (k+1))=(Di ds dvs' [x]).map (us++·):=by
    rw [BH hx];exact Lf _ _ _ hok
   rw [Di] at hall
   rw [Di,Di] at hsn
   have hcl:=U1 ps fs ds dvs' hh x (hsm x (AT hx)) nv hnv true τ1
   simp only [pgA,Pg.enc,AG,AQ] at hcl
   cases hr:Hi ds dvs' true x with
   |error e=>
    rw [hr] at hcl hall
    simp only [CP] at hall
    have hxe:=herr e hall
    have hne:=Qy x true e hr
    have hne':(e != 0)=true:=by simpa using hne
    obtain ⟨xk,xn,xl⟩:=x
    simp only [TE.A4,teA,AG,AQ,OR] at he hcl
    (repeat' (first|refine Run.ct rfl ?_|((first|refine Run.reg mixed ?_|refine Run.AE ?_|(refine AI.mk (by simp only [BP,Cp,hnl,As,Au];rfl) hcl ?_;rintro _ _ ⟨rfl,rfl⟩)|(refine Run.A1 I3 (σ2:=σ0) hle1 ?_))<;>try simp -implicitDefEqProofs only [Ac hlt,hec,he,hne',hoh.cell,AA,hlp1,hlp2,hlp3,go_sem])|fail))
    exact hxe
   |ok u=>
    rw [hr] at hcl hsn
    simp only [CP] at hsn
    obtain ⟨uk,un,ul⟩:=u
    obtain ⟨xk,xn,xl⟩:=x
    simp only [TE.A4,teA,AG,AQ,OR,tyA,Ty.enc] at he hcl
    have h00:((0:Int) != 0)=false:=by decide
    (repeat' (first|refine Run.ct rfl ?_|((first|refine Run.reg mixed ?_|refine Run.AE ?_|(refine AI.mk (by simp only [BP,Cp,hnl,As,Au];rfl) hcl ?_;rintro _ τ1 ⟨rfl,rfl⟩)|(refine EY.c4 (cx:=Dk) ho rfl (by simp) (by simp;omega) (by decide) (fun v2 σ2 ho2 hbk=>?_)))<;>try simp -implicitDefEqProofs only [Ac hlt,hec,he,hw1,h00,hoh.cell,hoh.cells,hoh.BY,hoh.BO,AA,hlp1,hlp2,hlp3,go_sem])|fail))
    have ho2h:=ho2.head
    simp only at ho2h
    simp -implicitDefEqProofs only [ho2h.cells,ho2h.cell,go_sem]
    (repeat' (first|refine Run.ct rfl ?_|((first|refine Run.reg mixed ?_|refine Run.AE ?_)<;>try simp -implicitDefEqProofs only [hw1,ho2h.cell,ho2h.cells,go_sem])|fail))
    exact ih2 (k+1,us++[.mk uk un ul],v2,σ2) ⟨by simp only;omega,by simp [hlu],hsn,by simpa [Ty.enc] using ho2,ho2h.le⟩ (by simp only;omega)
 · rw [AK (by omega)] at hok
   have:=hfin us uv τ1 hok ho hle1
   (repeat' (first|refine Run.ct rfl ?_|((first|refine Run.reg mixed ?_|refine Run.AE ?_)<;>try simp -implicitDefEqProofs only [Bi hlt,hec,AA,go_sem])|fail))
   have hke:k=car.length:=by omega
   subst hke
   exact this
end Go.Ab
namespace Go.Ab
open Go.Proofs
theorem OO (l:List Str) (s:Str) (v:AV) (hv:v.plain= .d (.sl (l.map Aw))) (σ:AF):AL Tryz.prog 59 [v,.d (.str s)] σ (fun v σ'=>v= .d (.int .i64 (E9 (Ct l s)))∧σ'=σ):=by
 refine AL.plain ?_
 simp only [AV.DI,hv,G0]
 exact QI l s σ
theorem ZW (Q:AV→AF→Prop) (rest:List CI) (ps:List DE) (fs:List FE) (ds:List (Str×Nat)) (dn:Str) (dvs':List Str) (dcs:List CE) (hh:dX ps ds dvs') (i:Nat) (hcl:dcs.length≤1000) (hsm:∀c∈dcs,Oj c∧c.args.length≤1000)
 (σ0 τ:AF) (out nv usedv a9 b9:AV) (h9:a9.BT=true∧b9.BT=true) (ul:List Str) (hul:ul.length≤100000) (lo:List Ow) (hown:G6 σ0 (⟨9,1,ul.map Aw,usedv⟩::lo) τ) (hle:σ0.le τ) (hnv:nv.plain= .d (.sl ((ds.map (·.1)).map Aw))) (hnl:nv.BY=true) (hlp:∀k,nv.BO k=false∧out.BO k=false)
 (herr:∀e,Ej ds dvs' ul dcs= .error e→Q (.tup [.d (.sl []),.agg [.d (.int .i64 e),.d (.int .i64 (-1)),.d (.int .i64 i)]]) σ0)
 (hfin:∀us usedv' consv' τ',Ej ds dvs' ul dcs= .ok us→G6 σ0 (⟨9,1,(ul++dcs.map (·.name)).map Aw,usedv'⟩::⟨124,2,us.map Con.enc,consv'⟩::lo) τ'→σ0.le τ'→Run Dk Q rest
   (put 1 (.lp 1 0) (put 3 (.lp 3 0) (put 4 out (put 5 nv (put 6 usedv' (put 7 (.d (.int .i64 i)) (put 8 (.lp 8 0) (put 9 (.lp 9 0) (put 10 (.d (.int .i64 dcs.length)) (put 58 (.d (.bool false)) U))))))))))
   (Az 1 [.d (.sl (ps.map DE.enc)),.d (.sl (fs.map FE.enc))] (Az 3 [.d (.int .i64 0),.d (.int .i64 0),.d (.int .i64 0)] (Az 8 [.d (.str dn),.d (.sl (dvs'.map Aw)),.d (.sl (dcs.map CE.enc))] (Az 9 [a9,b9,consv'] E)))) τ'):
 Run Dk Q (.code (.loop Q5)::.blk 2::rest)
  (put 1 (.lp 1 0) (put 3 (.lp 3 0) (put 4 out (put 5 nv (put 6 usedv (put 7 (.d (.int .i64 i)) (put 8 (.lp 8 0) (put 9 (.lp 9 0) (put 10 (.d (.int .i64 0)) U)))))))))
  (Az 1 [.d (.sl (ps.map DE.enc)),.d (.sl (fs.map FE.enc))] (Az 3 [.d (.int .i64 0),.d (.int .i64 0),.d (.int .i64 0)] (Az 8 [.d (.str dn),.d (.sl (dvs'.map Aw)),.d (.sl (dcs.map CE.enc))] (Az 9 [a9,b9,.AZ] E)))) τ:=by
 have hlp1:=fun k=>(hlp k).1
 have hlp2:=fun k=>(hlp k).2
 refine Run.BD ?_
 refine Run.BK ((fun (a1:AV) (a3:AV) (a4:AV) (a5:AV) (a7:AV) (a8:AV) (a9:AV)=>fun (y:Nat×List Con×AV×AV×AF)=>put 1 a1 (put 3 a3 (put 4 a4 (put 5 a5 (put 6 (y.2.2.1) (put 7 a7 (put 8 a8 (put 9 a9 (put 10 (.d (.int .i64 y.1)) U))))))))) _ _ _ _ _ _ _) (fun y=>Az 1 [.d (.sl (ps.map DE.enc)),.d (.sl (fs.map FE.enc))] (Az 3 [.d (.int .i64 0),.d (.int .i64 0),.d (.int .i64 0)] (Az 8 [.d (.str dn),.d (.sl (dvs'.map Aw)),.d (.sl (dcs.map CE.enc))] (Az 9 [a9,b9,y.2.2.2.1] E)))) (fun y=>y.2.2.2.2)
  (fun y=>y.1≤dcs.length∧y.2.1.length=y.1∧Ej ds dvs' ul (dcs.take y.1)= .ok y.2.1∧G6 σ0 (⟨9,1,(ul++(dcs.take y.1).map (·.name)).map Aw,y.2.2.1⟩::⟨124,2,y.2.1.map Con.enc,y.2.2.2.1⟩::lo) y.2.2.2.2∧σ0.le y.2.2.2.2) (fun y=>dcs.length - y.1) ?_ (0,[],usedv,.AZ,τ) ⟨by simp,rfl,rfl,by simpa using (hown.nil hle 124 2).perm (List.Perm.swap _ _ _),hle⟩
 rintro ⟨k,us,uv,cv,τ1⟩ ⟨hk,hlu,hok,ho,hle1⟩ ih
 simp only at hk hlu hok ho hle1
 have hou:=ho.head
 have hoc:=ho.tail.head
 simp only at hou hoc
 by_cases hlt:k < dcs.length
 · obtain ⟨c,hc⟩:=BC hlt
   have he:=BA (enc:=CE.enc) hc
   have hw1:=A5 (show k+1≤9000000000000000000 by omega)
   obtain ⟨hall,hnames⟩:=Jz ds dvs' (dcs.drop k) hok
   rw [A3,B3 hc] at hall
   obtain ⟨hsn,_⟩:=Jz ds dvs' [c] hok
   rw [← BH hc] at hsn
   obtain ⟨hcsm,hcal⟩:=hsm c (AT hc)
   have hfi:=OO (ul++(dcs.take k).map (·.name)) c.name uv hou.plain τ1
   have hin:(Ct (ul++(dcs.take k).map (·.name)) c.name).isSome=(ul++(dcs.take k).map (·.name)).contains c.name:=GI _ _
   rw [Ej] at hall hsn
   have hcc:=hc
   obtain ⟨cn,ar⟩:=c
   simp only [CE.enc] at he hin hall hsn hcal hfi
   cases hix:Ct (ul++(dcs.take k).map (·.name)) cn with
   |some q=>
    rw [hix] at hfi hin
    simp only [Bn] at hin
    rw [← hin,if_pos rfl] at hall
    have hxe:=herr 4 hall
    have hge:decide ((0:Int)≤(q:Int))=true:=by simp
    simp only [E9] at hfi
    (repeat' (first|refine Run.ct rfl ?_|((first|refine Run.reg mixed ?_|refine Run.AE ?_|(refine AI.mk (by simp only [BP,Cp,hou.BY,As,Au];rfl) hfi ?_;rintro _ _ ⟨rfl,rfl⟩)|(refine Run.A1 I3 (σ2:=σ0) hle1 ?_))<;>try simp -implicitDefEqProofs only [Ac hlt,he,hge,AA,hlp1,hlp2,hou.BO,go_sem])|fail))
    exact hxe
   |none=>
    rw [hix] at hfi hin
    simp only [CC] at hin
    rw [← hin,if_neg (by simp)] at hall hsn
    have hge:decide ((0:Int)≤-1)=false:=by decide
    simp only [E9] at hfi
    (repeat' (first|refine Run.ct rfl ?_|((first|refine Run.reg mixed ?_|refine Run.AE ?_|(refine AI.mk (by simp only [BP,Cp,hou.BY,As,Au];rfl) hfi ?_;rintro _ τ1 ⟨rfl,rfl⟩)|(refine EY.c4 (cx:=Dk) ho rfl (by simp) (by simp;omega) (by decide) (fun v2 τ2 ho2 hbk=>?_)))<;>try simp -implicitDefEqProofs only [Ac hlt,he,hge,AA,hlp1,hlp2,hou.BO,go_sem])|fail))
    have ho2h:=ho2.head
    simp only at ho2h
    simp only [ho2h.BO,AY,if_false]
    refine ZV Q _ ps fs ds dn dvs' dcs hh cn ar k i hcc hcsm hcal σ0 τ2 out nv v2 a9 b9 cv _ ho2 ho2h.le hnv hnl (fun k=>⟨hlp1 k,hlp2 k,ho2h.BO k⟩) (fun e he'=>?_) (fun ts av τ3 hts ho3 hle3=>?_)
    · rw [he'] at hall
      exact herr e hall
    · rw [hts] at hsn
      simp only [Ej,CP] at hsn
      have ho3a:=ho3.head
      have ho3c:=(ho3.tail.perm (List.Perm.swap _ _ _))
      simp only at ho3a
      have hoc3:=ho3c.head
      simp only at hoc3
      (repeat' (first|refine Run.ct rfl ?_|((first|refine Run.reg mixed ?_|refine Run.AE ?_|(refine EY.c4 (cx:=Dk) ho3c rfl (by simp) (by simp;omega) (by decide) (fun v4 τ4 ho4 hbk4=>?_)))<;>try simp -implicitDefEqProofs only [hw1,hoc3.cell,hoc3.cells,ho3a.cell,ho3a.dv,AA,hlp1,hlp2,ho2h.BO,h9.1,h9.2,go_sem])|fail))
      have ho5:=ho4.perm (List.Perm.swap _ _ _)
      have h4h:=ho4.head
      have h5h:=ho5.head
      simp only at h4h h5h
      simp -implicitDefEqProofs only [h4h.cells,h4h.cell,go_sem]
      (repeat' (first|refine Run.ct rfl ?_|((first|refine Run.reg mixed ?_|refine Run.AE ?_)<;>try simp -implicitDefEqProofs only [hw1,h4h.cells,h4h.cell,hlp1,hlp2,h5h.BO,go_sem])|fail))
      exact ih (k+1,us++[(⟨cn,ts⟩:Con)],v2,v4,τ4) ⟨by simp only;omega,by simp [hlu],hsn,by
       simp only [BH hcc,Kg,AG,AQ,← Ae] at ho5 ⊢
       simpa [Con.enc,Ty.E8,Aw] using ho5,h4h.le⟩ (by simp only;omega)
 · rw [AK (by omega)] at hok ho
   have:=hfin us uv cv τ1 hok ho hle1
   have hke:k=dcs.length:=by omega
   subst hke
   (repeat' (first|refine Run.ct rfl ?_|((first|refine Run.reg mixed ?_|refine Run.AE ?_)<;>try simp -implicitDefEqProofs only [Bi hlt,AA,hlp1,hlp2,hou.BO,go_sem])|fail))
   exact this
end Go.Ab
namespace Go.Ab
open Go.Proofs
theorem G6.part {σ0 τ:AF} {l m r:List Ow} (h:G6 σ0 l τ) (hp:l.Perm (m++r)):G6 σ0 m τ:=by
 have:=h.perm hp
 exact ⟨fun x hx=>this.1 x (Nb _ hx),(List.pairwise_append.1 this.2).1⟩
theorem WL {n:Nat}:∀ {l:List DE},(∀d∈l,d.cons.length≤n)→(IU l).length≤l.length * n
 |[],_=>by simp [IU]
 |d::l,h=>by
  have h1:=WL (l:=l) (fun x hx=>h x (B6 _ hx))
  have h2:=h d (BG ..)
  simp only [IU,Lb,AS,AA,A9] at h1 ⊢
  rw [JQ];omega
theorem bT (ps:List DE) (d:DE) (i:Nat) (hd:ps[i]?=some d) (hl:ps.length≤1000):dX ps (Co (ps.take i)++[(d.name,d.vars.length)]) d.vars:=by
 have hi:=(AR.1 hd).1
 have hh:Co (ps.take i)++[(d.name,d.vars.length)]=Co (ps.take (i+1)):=by
  rw [BH hd,Co,Co,Kg];rfl
 rw [hh]
 have hlen:(Co (ps.take (i+1))).length=i+1:=by rw [Co,AA,Ai];omega
 refine ⟨fun k x hx=>?_,fun x hx=>?_,by omega⟩
 · rw [Co,Ag,BF] at hx
   split at hx
   · obtain ⟨d',h1,h2⟩:=AD.1 hx
     exact ⟨d',h1,by rw [← h2]⟩
   · cases hx
 · rw [hlen,show i+1 - 1=i by omega,Co,Ag,BF,if_pos (by omega),hd] at hx
   cases hx;rfl
theorem ZX (p:Pg) (σ:AF) (h:∀d∈p.data,Hp d):AL Tryz.prog 23 [pgA p] σ (fun v σ'=>v=SR (ND p)∧σ'=σ):=by
 have hval:=Xq p σ h
 refine bU (by simp) ?_
 rw [Bj]
 unfold ND
 cases hvb:EF p with
 |false=>
  rw [hvb] at hval
  obtain ⟨ds,fs⟩:=p
  simp only [pgA,Pg.enc,AG,AQ] at hval ⊢
  (repeat' (first|refine Run.ct rfl ?_|((first|refine Run.reg mixed ?_|refine Run.AE ?_|(refine Run.A1 I3 (σ2:=σ) (AF.le_refl _) ?_)|refine AI.det (hval) ?_)<;>try simp -implicitDefEqProofs only [go_sem])|fail))
  rfl
 |true=>
 rw [hvb] at hval
 obtain ⟨hpl,hps⟩:=Ok hvb h
 obtain ⟨ps,fs⟩:=p
 simp only [pgA,Pg.enc,AG,AQ] at hval hpl hps ⊢
 (repeat' (first|refine Run.ct rfl ?_|((first|refine Run.reg mixed ?_|refine Run.AE ?_|refine AI.det (hval) ?_)<;>try simp -implicitDefEqProofs only [AA,go_sem])|fail))
 generalize hQ:(fun (v:AV) (σ':AF)=>v=SR (match DD [] ps with| .error (e,i)=>.error (e,-1,(i:Int))| .ok l=>.ok l)∧σ'=σ)=Q
 have herr:∀(e:Int) (i:Nat),DD [] ps= .error (e,i)→Q (.tup [.d (.sl []),.agg [.d (.int .i64 e),.d (.int .i64 (-1)),.d (.int .i64 i)]]) σ:=fun e i hd=>by
  rw [← hQ,hd];exact ⟨rfl,rfl⟩
 have hok:∀(l:List Dat),DD [] ps= .ok l→Q (.tup [.d (.sl (l.map Dat.enc)),.agg [.d (.int .i64 0),.d (.int .i64 0),.d (.int .i64 0)]]) σ:=fun l hd=>by
  rw [← hQ,hd];exact ⟨rfl,rfl⟩
 clear hQ
 refine Run.BD ?_
 have hown0:G6 σ [⟨9,1,[],.AZ⟩,⟨122,3,[],.AZ⟩,⟨9,1,[],.AZ⟩] σ:=by
  have h0:G6 σ [] σ:=⟨fun x hx=>(by cases hx),List.Pairwise.nil⟩
  exact ((h0.nil (AF.le_refl _) _ _).nil (AF.le_refl _) _ _).nil (AF.le_refl _) _ _
 refine Run.BK ((fun (a1:AV) (a3:AV)=>fun (y:Nat×List Dat×AV×AV×AV×AF)=>put 1 a1 (put 3 a3 (put 4 (y.2.2.1) (put 5 (y.2.2.2.1) (put 6 (y.2.2.2.2.1) (put 7 (.d (.int .i64 y.1)) U)))))) _ _) (fun _=>Az 1 [.d (.sl (ps.map DE.enc)),.d (.sl (fs.map FE.enc))] (Az 3 [.d (.int .i64 0),.d (.int .i64 0),.d (.int .i64 0)] E)) (fun y=>y.2.2.2.2.2)
  (fun y=>y.1≤ps.length∧DD [] (ps.take y.1)= .ok y.2.1∧G6 σ [⟨9,1,(((Co (ps.take y.1)).map (·.1)).map Aw),y.2.2.2.1⟩,⟨122,3,y.2.1.map Dat.enc,y.2.2.1⟩,⟨9,1,(IU (ps.take y.1)).map Aw,y.2.2.2.2.1⟩] y.2.2.2.2.2)
  (fun y=>ps.length - y.1) ?_ (0,[],.AZ,.AZ,.AZ,σ) ⟨by simp,rfl,hown0⟩
 rintro ⟨i,dl,outv,nv,usedv,τ⟩ ⟨hi,hgo,hown⟩ ih
 simp only at hi hgo hown
 have hn:=hown.head
 have hout:=hown.tail.head
 have hus:=hown.tail.tail.head
 simp only at hn hout hus
 obtain ⟨f1,f2,f3,f4,f5⟩:=Iy hgo
 have hlen:dl.length=i:=by rw [f3,Ai];omega
 by_cases hlt:i < ps.length
 · obtain ⟨d,hd⟩:=BC hlt
   have he:=BA (enc:=DE.enc) hd
   have hw1:=A5 (show i+1≤9000000000000000000 by omega)
   obtain ⟨hc1,hc2⟩:=hps d (AT hd)
   have hhd:=bT ps d i hd (by omega)
   have hul:(IU (ps.take i)).length≤100000:=by
    have:=WL (n:=1000) (l:=ps.take i) (fun d hd=>(hps d (Bg hd)).1)
    rw [Ai] at this
    have:min i ps.length * 1000≤12 * 1000:=BQ _ (by omega)
    omega
   have hall:DD [] ps=(DD (ps.take i) (d::ps.drop (i+1))).map (dl++·):=by
    conv=>lhs;rw [← A3 i ps,B3 hd]
    exact Lv _ hgo
   have hsn:DD [] (ps.take (i+1))=(DD (ps.take i) [d]).map (dl++·):=by
    rw [BH hd];exact Lv _ hgo
   rw [DD,NF] at hall hsn
   have hheads:(Co (ps.take (i+1))).map (·.1)=(Co (ps.take i)).map (·.1)++[d.name]:=by
    rw [BH hd];simp [Co]
   have huse:IU (ps.take (i+1))=IU (ps.take i)++d.cons.map (·.name):=by
    rw [BH hd];simp [IU]
   have hfi:=OO ((Co (ps.take i)).map (·.1)) d.name nv hn.plain τ
   have hin:(Ct ((Co (ps.take i)).map (·.1)) d.name).isSome=((Co (ps.take i)).map (·.1)).contains d.name:=GI _ _
   have htw:=LF d.vars τ
   have hhl:((Co (ps.take i)).map (·.1)).length=i:=by simp [Co];omega
   obtain ⟨dn,dvs',dcs⟩:=d
   simp only [DE.enc] at he hall hsn hheads huse hfi hin hhd hc1 hc2 htw
   rw [← hin] at hall hsn
   simp only [Ai,CO hi] at hall
   cases hix:Ct ((Co (ps.take i)).map (·.1)) dn with
   |some q=>
    rw [hix] at hfi hall
    simp only [Bn,JO,if_true,CP] at hall
    have hxe:=herr 4 i hall
    have hge:decide ((0:Int)≤(q:Int))=true:=by simp
    simp only [E9] at hfi
    (repeat' (first|refine Run.ct rfl ?_|((first|refine Run.reg mixed ?_|refine Run.AE ?_|(refine AI.mk (by simp only [BP,Cp,hn.BY,As,Au];rfl) hfi ?_;rintro _ _ ⟨rfl,rfl⟩)|(refine Run.A1 I3 (σ2:=σ) hn.le ?_))<;>try simp -implicitDefEqProofs only [Ac hlt,he,hge,AA,hn.BO,hout.BO,hus.BO,go_sem])|fail))
    exact hxe
   |none=>
   rw [hix] at hfi hall hsn
   simp only [E9] at hfi
   simp only [CC,DL] at hall hsn
   have hge:decide ((0:Int)≤-1)=false:=by decide
   cases htb:CA dvs' with
   |true=>
    rw [htb] at htw hall
    simp only [if_true,CP] at hall
    have hxe:=herr 4 i hall
    (repeat' (first|refine Run.ct rfl ?_|((first|refine Run.reg mixed ?_|refine Run.AE ?_|(refine AI.mk (by simp only [BP,Cp,hn.BY,As,Au];rfl) hfi ?_;rintro _ τ ⟨rfl,rfl⟩)|(refine Run.A1 I3 (σ2:=σ) hn.le ?_)|refine AI.det (htw) ?_)<;>try simp -implicitDefEqProofs only [Ac hlt,he,hge,AA,hn.BO,hout.BO,hus.BO,go_sem])|fail))
    exact hxe
   |false=>
   rw [htb] at htw hall hsn
   simp only [AY,if_false] at hall hsn
   (repeat' (first|refine Run.ct rfl ?_|((first|refine Run.reg mixed ?_|refine Run.AE ?_|(refine AI.mk (by simp only [BP,Cp,hn.BY,As,Au];rfl) hfi ?_;rintro _ τ ⟨rfl,rfl⟩)|(refine EY.c4 (cx:=Dk) hown rfl (by simp) (by rw [AA,hhl];simp;omega) (by decide) (fun v2 τ2 ho2 hbk=>?_))|refine AI.det (htw) ?_)<;>try simp -implicitDefEqProofs only [Ac hlt,he,hge,AA,hn.BO,hout.BO,hus.BO,go_sem])|fail))
   have hn2:=ho2.head
   simp only at hn2
   simp only [hn2.BO,AY,if_false]
   have hnp:v2.plain= .d (.sl (((Co (ps.take i)++[(dn,dvs'.length)]).map (·.1)).map Aw)):=by
    rw [hn2.plain];simp [Aw]
   have hou2:G6 σ [⟨9,1,(IU (ps.take i)).map Aw,usedv⟩,⟨9,1,((Co (ps.take i)).map (·.1)).map Aw++[[.str dn]],v2⟩,⟨122,3,dl.map Dat.enc,outv⟩] τ2:=
    ho2.perm (List.perm_append_comm (l₁:=[_,_]) (l₂:=[_]))
   refine ZW Q _ ps fs (Co (ps.take i)++[(dn,dvs'.length)]) dn dvs' dcs hhd i hc1 hc2 σ τ2 outv v2 usedv (.d (.str dn)) (.d (.int .i64 dvs'.length)) ⟨rfl,rfl⟩ (IU (ps.take i)) hul _ hou2 hn2.le hnp hn2.BY (fun k=>⟨hn2.BO k,hout.BO k⟩) (fun e he'=>?_) (fun us usedv' consv' τ3 hts ho3 hle3=>?_)
   · rw [he'] at hall
     exact herr e i hall
   · rw [hts] at hsn
     simp only [DD,CP] at hsn
     have ho4:G6 σ [⟨122,3,dl.map Dat.enc,outv⟩,⟨9,1,(IU (ps.take i)++dcs.map (·.name)).map Aw,usedv'⟩,⟨124,2,us.map Con.enc,consv'⟩,⟨9,1,((Co (ps.take i)).map (·.1)).map Aw++[[.str dn]],v2⟩] τ3:=
      ho3.perm (List.perm_append_comm (l₁:=[_,_,_]) (l₂:=[_]))
     have hu3:=ho3.head
     have hc3:=ho3.tail.head
     simp only at hu3 hc3
     (repeat' (first|refine Run.ct rfl ?_|((first|refine Run.reg mixed ?_|refine Run.AE ?_|(refine EY.c4 (cx:=Dk) ho4 rfl (by simp) (by simp [hlen];omega) (by decide) (fun v5 τ5 ho5 hbk5=>?_)))<;>try simp -implicitDefEqProofs only [hw1,hc3.cell,hc3.cells,hc3.dv,AA,hn2.BO,hout.BO,hu3.BO,go_sem])|fail))
     have ho6:=ho5.perm (List.perm_append_comm (l₁:=[_,_]) (l₂:=[_,_]))
     have h5:=ho5.head
     simp only at h5
     exact ih (i+1,dl++[(⟨dn,dvs'.length,us⟩:Dat)],v5,v2,usedv',τ5) ⟨by simp only;omega,hsn,by
      have:=ho6.tail
      simp only [hheads,huse]
      simpa [Dat.enc,Aw] using this⟩ (by simp only;omega)
 · rw [AK (by omega)] at hgo
   have hfin:=hok dl hgo
   (repeat' (first|refine Run.ct rfl ?_|((first|refine Run.reg mixed ?_|refine Run.AE ?_|(refine Run.A1 I3 (σ2:=σ) hn.le ?_))<;>try simp -implicitDefEqProofs only [Bi hlt,AA,hn.BO,hout.BO,hus.BO,hout.BY,go_sem])|fail))
   simp -implicitDefEqProofs only [hout.plain,hout.BY,go_sem]
   exact hfin
end Go.Ab
