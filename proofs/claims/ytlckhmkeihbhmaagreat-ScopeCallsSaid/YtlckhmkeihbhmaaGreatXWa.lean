/- Reference scope: find, twice. Reference scope: Constructor. Reference scope: resolve's loop. Reference scope: resolve. Reference scope: Data, the arguments of a constructor. Conditions: none. -/
import Derived.Test.YtlckhmkeihbhmaaGreatXXt
set_option linter.unusedSimpArgs false
set_option linter.unusedVariables false
set_option maxRecDepth 4000
set_option maxHeartbeats 8000000
open List renaming length_map→AA,take_of_length_le→AH,contains_iff_mem→Aa,mem_of_getElem?→AT,getElem?_take→BN,mem_append→A3,mem_singleton→B5,take_append_drop→A4,map_cons→AI,map_nil→AO,getElem?_cons_zero→LO,getElem?_map→Ah,getElem?_eq_some_iff→AR,getD_eq_getElem?_getD→BQ,all_cons→BU,all_nil→Cr
open Bool renaming false_or→DP,false_and→B1,not_true→IJ,and_false→B3,not_false→C2,true_and→BA,eq_false_iff→Bv,eq_iff_iff→Ac,and_true→Am
open Except renaming map→CP
open Option.some renaming injEq→AK
open Int renaming reduceBEq→AU
open Option renaming map_eq_some_iff→AE
open Nat renaming lt_or_ge→Br,le_refl→A0
namespace Go.Ab
open Go.Proofs
theorem Qj (l:List Str) (s:Str) (σ:AF):AM Tryz.prog 59 [.d (.sl (l.map BF)),.d (.str s)] σ (fun v σ'=>v= .d (.int .i64 (Ee (Ct l s)))∧σ'=σ):=by
 refine dM (by simp) ?_
 rw [BY,← KQ]
 refine Run.slot 0 (fun hb0=>?_)
 simp only [Dn,if_true,AV.FB,AA] at hb0
 (repeat' (first|refine Run.ct rfl ?_|((first|refine Run.reg mixed ?_|refine Run.AD ?_)<;>try simp -implicitDefEqProofs only [AA,go_sem])|fail))
 refine Run.BD ?_
 refine Run.BG ((fun (a0:AV) (a1:AV)=>fun (i:Nat)=>put 0 a0 (put 1 a1 (put 5 (.d (.int .i64 i)) U))) _ _) (fun _=>E) (fun _=>σ) (fun i=>i≤l.length∧∀x∈l.take i,(x==s)=false) (fun i=>l.length - i) ?_ 0 ⟨by simp,by simp⟩
 rintro i ⟨hi,hno⟩ ih
 by_cases hlt:i < l.length
 · obtain ⟨x,hx⟩:=BC hlt
   have he:=Ay (enc:=BF) hx
   simp only [BF] at he
   have hw1:IntKind.i64.wrap ((i:Int)+1)=((i+1:Nat):Int):=by rw [BI (by omega) (by omega)];omega
   cases hp:(x==s) with
   |true=>
    (repeat' (first|refine Run.ct rfl ?_|((first|refine Run.reg mixed ?_|refine Run.AD ?_|refine Run.A1 SK (AF.le_refl _) ?_)<;>try simp -implicitDefEqProofs only [A8 hlt,he,hw1,BS,hp,AA,go_sem])|fail))
    rw [D1 (p:=fun x=>x==s) hno hx hp];rfl
   |false=>
    (repeat' (first|refine Run.ct rfl ?_|((first|refine Run.reg mixed ?_|refine Run.AD ?_)<;>try simp -implicitDefEqProofs only [A8 hlt,he,hw1,BS,hp,AA,go_sem])|fail))
    exact ih (i+1) ⟨by omega,Eg (p:=fun x=>x==s) hno hx hp⟩ (by omega)
 · (repeat' (first|refine Run.ct rfl ?_|((first|refine Run.reg mixed ?_|refine Run.AD ?_|refine Run.A1 SK (AF.le_refl _) ?_)<;>try simp -implicitDefEqProofs only [Bd hlt,AA,go_sem])|fail))
   rw [AH (by omega)] at hno
   rw [D2 (p:=fun x=>x==s) hno];rfl
theorem L4 (l:List Str) (σ:AF):AM Tryz.prog 38 [.d (.sl (l.map BF))] σ (fun v σ'=>v= .d (.bool (CC l))∧σ'=σ):=by
 refine Zr (by simp) ?_
 rw [Bg]
 refine Run.slot 0 (fun hb0=>?_)
 simp only [Dn,if_true,AV.FB,AA] at hb0
 (repeat' (first|refine Run.ct rfl ?_|((first|refine Run.reg mixed ?_|refine Run.AD ?_)<;>try simp -implicitDefEqProofs only [AA,go_sem])|fail))
 refine Run.BD ?_
 refine Run.BG ((fun (a0:AV)=>fun (i:Nat)=>put 0 a0 (put 3 (.d (.int .i64 i)) U)) _) (fun _=>E) (fun _=>σ) (fun i=>i≤l.length∧CC (l.take i)=false) (fun i=>l.length - i) ?_ 0 ⟨by simp,by simp [CC]⟩
 rintro i ⟨hi,hno⟩ ih
 by_cases hlt:i < l.length
 · obtain ⟨x,hx⟩:=BC hlt
   have he:=Ay (enc:=BF) hx
   simp only [BF] at he
   have hw1:IntKind.i64.wrap ((i:Int)+1)=((i+1:Nat):Int):=by rw [BI (by omega) (by omega)];omega
   have hsn:=PA (l.take i) x
   rw [← Aw hx,hno,DP] at hsn
   (repeat' (first|refine Run.ct rfl ?_|((first|refine Run.reg mixed ?_|refine Run.AD ?_)<;>try simp -implicitDefEqProofs only [A8 hlt,AA,go_sem])|fail))
   refine Run.BD ?_
   refine Run.BG ((fun (a0:AV) (a3:AV)=>fun (j:Nat)=>put 0 a0 (put 3 a3 (put 4 (.d (.int .i64 j)) U))) _ _) (fun _=>E) (fun _=>σ) (fun j=>j≤i∧∀y∈l.take j,((x==y)&& !(x==[]))=false) (fun j=>i - j) ?_ 0 ⟨by simp,by simp⟩
   rintro j ⟨hj,hnj⟩ ih2
   by_cases hji:j < i
   · obtain ⟨y,hy⟩:=BC (show j < l.length by omega)
     have hey:=Ay (enc:=BF) hy
     simp only [BF] at hey
     have hw2:IntKind.i64.wrap ((j:Int)+1)=((j+1:Nat):Int):=by rw [BI (by omega) (by omega)];omega
     cases h1:(x==y) with
     |false=>
      (repeat' (first|refine Run.ct rfl ?_|((first|refine Run.reg mixed ?_|refine Run.AD ?_)<;>try simp -implicitDefEqProofs only [A8 hji,he,hey,hw2,BS,Cd,h1,AA,go_sem])|fail))
      exact ih2 (j+1) ⟨by omega,Eg (p:=fun y=>(x==y)&& !(x==[])) hnj hy (by simp only [h1,B1])⟩ (by omega)
     |true=>
      cases h2:(x==[]) with
      |true=>
       (repeat' (first|refine Run.ct rfl ?_|((first|refine Run.reg mixed ?_|refine Run.AD ?_)<;>try simp -implicitDefEqProofs only [A8 hji,he,hey,hw2,BS,Cd,h1,h2,AA,go_sem])|fail))
       exact ih2 (j+1) ⟨by omega,Eg (p:=fun y=>(x==y)&& !(x==[])) hnj hy (by simp only [h2,IJ,B3])⟩ (by omega)
      |false=>
       have hct:(l.take i).contains x=true:=by
        have:x=y:=by simpa using h1
        subst this
        rw [Aa]
        exact AT (by rw [BN,if_pos hji];exact hy)
       (repeat' (first|refine Run.ct rfl ?_|((first|refine Run.reg mixed ?_|refine Run.AD ?_|refine Run.A1 Q7 (AF.le_refl _) ?_)<;>try simp -implicitDefEqProofs only [A8 hji,he,hey,hw2,BS,Cd,h1,h2,AA,go_sem])|fail))
       rw [TN (i:=i+1) (by rw [hsn,h2,hct];rfl)]
   · have hje:j=i:=by omega
     subst hje
     have hct:(!(x==[])&&(l.take j).contains x)=false:=by
      cases h2:(x==[]) with
      |true=>rfl
      |false=>
       rw [C2,BA,Bv]
       intro hc
       rw [Aa] at hc
       have:=hnj x hc
       simp [h2] at this
     (repeat' (first|refine Run.ct rfl ?_|((first|refine Run.reg mixed ?_|refine Run.AD ?_)<;>try simp -implicitDefEqProofs only [Bd hji,hw1,go_sem])|fail))
     exact ih (j+1) ⟨by omega,by rw [hsn,hct]⟩ (by omega)
 · (repeat' (first|refine Run.ct rfl ?_|((first|refine Run.reg mixed ?_|refine Run.AD ?_|refine Run.A1 Q7 (AF.le_refl _) ?_)<;>try simp -implicitDefEqProofs only [Bd hlt,AA,go_sem])|fail))
   rw [AH (by omega)] at hno
   rw [hno]
end Go.Ab
namespace Go.Ab
open Go.Proofs
theorem L3 (dt:List Dat) (hdt:QS dt) (s:Str) (σ:AF):AM Tryz.prog 67 [dsA dt,.d (.str s)] σ (fun v σ'=>v=SF (I8 dt s)∧σ'=σ):=by
 refine SM (by simp) ?_
 rw [BY,dsA]
 refine Run.slot 0 (fun hb0=>?_)
 simp only [Dn,if_true,AV.FB,AA] at hb0
 (repeat' (first|refine Run.ct rfl ?_|((first|refine Run.reg mixed ?_|refine Run.AD ?_)<;>try simp -implicitDefEqProofs only [AA,go_sem])|fail))
 refine Run.BD ?_
 refine Run.BG ((fun (a0:AV) (a1:AV)=>fun (i:Nat)=>put 0 a0 (put 1 a1 (put 7 (.d (.int .i64 i)) U))) _ _) (fun _=>E) (fun _=>σ) (fun i=>i≤dt.length∧∀d∈dt.take i,HX d.cons s=none) (fun i=>dt.length - i) ?_ 0 ⟨by simp,by simp⟩
 rintro i ⟨hi,hno⟩ ih
 by_cases hlt:i < dt.length
 · obtain ⟨d,hd⟩:=BC hlt
   have he:=ND hd
   have hw1:IntKind.i64.wrap ((i:Int)+1)=((i+1:Nat):Int):=by rw [BI (by omega) (by omega)];omega
   have hdl:=hdt d (AT hd)
   (repeat' (first|refine Run.ct rfl ?_|((first|refine Run.reg mixed ?_|refine Run.AD ?_)<;>try simp -implicitDefEqProofs only [A8 hlt,AA,go_sem])|fail))
   refine Run.BD ?_
   refine Run.BG ((fun (a0:AV) (a1:AV) (a7:AV)=>fun (k:Nat)=>put 0 a0 (put 1 a1 (put 7 a7 (put 8 (.d (.int .i64 k)) U)))) _ _ _) (fun _=>E) (fun _=>σ) (fun k=>k≤d.cons.length∧∀c∈d.cons.take k,(c.name==s)=false) (fun k=>d.cons.length - k) ?_ 0 ⟨by simp,by simp⟩
   rintro k ⟨hk,hnk⟩ ih2
   by_cases hkl:k < d.cons.length
   · obtain ⟨c,hc⟩:=BC hkl
     have hec:=NA hc
     have hw2:IntKind.i64.wrap ((k:Int)+1)=((k+1:Nat):Int):=by rw [BI (by omega) (by omega)];omega
     cases hp:(c.name==s) with
     |true=>
      have hca:HX d.cons s=some k:=by rw [← GM];exact D1 (p:=fun c:Con=>c.name==s) hnk hc hp
      (repeat' (first|refine Run.ct rfl ?_|((first|refine Run.reg mixed ?_|refine Run.AD ?_|refine Run.A1 Ie (AF.le_refl _) ?_)<;>try simp -implicitDefEqProofs only [A8 hkl,he,hec,hw2,BS,hp,AA,go_sem])|fail))
      rw [XS hno hd hca];rfl
     |false=>
      (repeat' (first|refine Run.ct rfl ?_|((first|refine Run.reg mixed ?_|refine Run.AD ?_)<;>try simp -implicitDefEqProofs only [A8 hkl,he,hec,hw2,BS,hp,AA,go_sem])|fail))
      exact ih2 (k+1) ⟨by omega,Eg (p:=fun c:Con=>c.name==s) hnk hc hp⟩ (by omega)
   · (repeat' (first|refine Run.ct rfl ?_|((first|refine Run.reg mixed ?_|refine Run.AD ?_)<;>try simp -implicitDefEqProofs only [Bd hkl,he,hw1,AA,go_sem])|fail))
     rw [AH (by omega)] at hnk
     have hca:HX d.cons s=none:=by rw [← GM];exact D2 (p:=fun c:Con=>c.name==s) hnk
     refine ih (i+1) ⟨by omega,fun x hx=>?_⟩ (by omega)
     rw [Aw hd] at hx
     rcases A3.1 hx with h|h
     · exact hno x h
     · rw [B5] at h;subst h;exact hca
 · (repeat' (first|refine Run.ct rfl ?_|((first|refine Run.reg mixed ?_|refine Run.AD ?_|refine Run.A1 Ie (AF.le_refl _) ?_)<;>try simp -implicitDefEqProofs only [Bd hlt,AA,go_sem])|fail))
   rw [AH (by omega)] at hno
   rw [XU hno];rfl
end Go.Ab
namespace Go.Ab
open Go.Proofs
set_option maxRecDepth 4000 in
set_option maxHeartbeats 4000000 in
theorem Td (ps:List DE) (fs:List FE) (ds:List (Str×Nat)) (vars:List Str) (k num:Int) (n:Str) (l:List TE) (τ:AF) (hll:l.length≤1000000)
 (ih:∀x∈l,∀τ',AM Tryz.prog 60 [pgA ⟨ps,fs⟩,.d (.sl ((ds.map (·.1)).map BF)),.d (.sl (vars.map BF)),teA x,.d (.bool false)] τ' (fun v σ'=>v=Ok (Hu ds vars false x)∧σ'=τ')):
 Run Ge (fun v σ'=>v=Ok ((Ch ds vars l).map (Ty.mk k num))∧σ'=τ) [.code (.loop N7),.blk 3,.code (.seq (.reg [⟨some 123,.ldl (.t 12) (some 3),none⟩,⟨none,.st (.t 10) (.t 123) 3,none⟩,⟨some 11,.mv (.c (.d (.int .i64 0))),none⟩] [10,11]) .ret)]
  (put 1 (.d (.sl ((ds.map (·.1)).map BF))) (put 2 (.d (.sl (vars.map BF))) (put 5 (.lp 5 0) (put 8 (.lp 8 0) (put 10 (.lp 10 0) (put 12 (.lp 12 0) (put 14 (.d (.int .i64 0)) U)))))))
  (BE 5 [.d (.sl (ps.map DE.enc)),.d (.sl (fs.map FE.enc))] (BE 8 [.d (.int .i64 k),.d (.str n),.d (.sl (l.map TE.enc))] (BE 10 [.d (.int .i64 0),.d (.int .i64 0),.AY] (BE 12 [.d (.int .i64 k),.d (.int .i64 num),.AY] E)))) τ:=by
 refine Run.BD ?_
 refine Run.BG ((fun (a1:AV) (a2:AV) (a5:AV) (a8:AV) (a10:AV) (a12:AV)=>fun (y:Nat×List Ty×AV×AF)=>put 1 a1 (put 2 a2 (put 5 a5 (put 8 a8 (put 10 a10 (put 12 a12 (put 14 (.d (.int .i64 y.1)) U))))))) _ _ _ _ _ _) (fun y=>BE 5 [.d (.sl (ps.map DE.enc)),.d (.sl (fs.map FE.enc))] (BE 8 [.d (.int .i64 k),.d (.str n),.d (.sl (l.map TE.enc))] (BE 10 [.d (.int .i64 0),.d (.int .i64 0),.AY] (BE 12 [.d (.int .i64 k),.d (.int .i64 num),y.2.2.1] E)))) (fun y=>y.2.2.2)
  (fun y=>y.1≤l.length∧y.2.1.length=y.1∧Ch ds vars (l.take y.1)= .ok y.2.1∧Cg τ 57 3 (y.2.1.map Ty.enc) y.2.2.1 y.2.2.2) (fun y=>l.length - y.1) ?_ (0,[],.AY,τ) ⟨by simp,rfl,rfl,Cg.nil _ _ _⟩
 rintro ⟨i,us,uv,τ1⟩ ⟨hi,hlu,hok,ho⟩ ih2
 simp only at hi hlu hok ho
 by_cases hlt:i < l.length
 · obtain ⟨x,hx⟩:=BC hlt
   have he:=Ay (enc:=TE.enc) hx
   have hw1:=A6 (show i+1≤9000000000000000000 by omega)
   have hall:Ch ds vars l=(Ch ds vars (x::l.drop (i+1))).map (us++·):=by
    conv=>lhs;rw [← A4 i l,Bb hx]
    exact M8 _ _ _ hok
   have hsn:Ch ds vars (l.take (i+1))=(Ch ds vars [x]).map (us++·):=by
    rw [Aw hx];exact M8 _ _ _ hok
   rw [Ch] at hall
   rw [Ch,Ch] at hsn
   have hc:=ih x (AT hx) τ1
   simp only [pgA,Pg.enc,AI,AO] at hc
   cases hr:Hu ds vars false x with
   |error e=>
    rw [hr] at hc hall
    have hne:=Rg x false e hr
    have hne':(e != 0)=true:=by simpa using hne
    obtain ⟨xk,xn,xl⟩:=x
    simp only [TE.A7,teA,AI,AO,Ok] at he hc
    (repeat' (first|refine Run.ct rfl ?_|((first|refine Run.reg mixed ?_|refine Run.AD ?_|(refine Run.A1 EI ho.le ?_)|refine AJ.det (hc) ?_)<;>try simp -implicitDefEqProofs only [A8 hlt,he,hne',ho.cell,AA,go_sem])|fail))
    rw [hall];rfl
   |ok u=>
    rw [hr] at hc hsn
    simp only [CP] at hsn
    obtain ⟨uk,un,ul⟩:=u
    obtain ⟨xk,xn,xl⟩:=x
    simp only [TE.A7,teA,AI,AO,Ok,tyA,Ty.enc] at he hc
    have h00:((0:Int) != 0)=false:=by decide
    (repeat' (first|refine Run.ct rfl ?_|((first|refine Run.reg mixed ?_|refine Run.AD ?_|(refine Dy.own ho rfl (by simp) (by simp;omega) (by decide) (fun v2 σ2 ho2 hbk=>?_))|refine AJ.det (hc) ?_)<;>try simp -implicitDefEqProofs only [A8 hlt,he,hw1,h00,ho.cell,ho.cells,ho.BZ,ho.Ar,AA,go_sem])|fail))
    simp -implicitDefEqProofs only [ho2.cells,ho2.cell,go_sem]
    (repeat' (first|refine Run.ct rfl ?_|((first|refine Run.reg mixed ?_|refine Run.AD ?_)<;>try simp -implicitDefEqProofs only [hw1,ho2.cell,ho2.cells,go_sem])|fail))
    exact ih2 (i+1,us++[.mk uk un ul],v2,σ2) ⟨by simp only;omega,by simp [hlu],hsn,by simpa [Ty.enc] using ho2⟩ (by simp only;omega)
 · rw [AH (by omega)] at hok
   (repeat' (first|refine Run.ct rfl ?_|((first|refine Run.reg mixed ?_|refine Run.AD ?_|(refine Run.A1 EI ho.le ?_))<;>try simp -implicitDefEqProofs only [Bd hlt,ho.cell,ho.cells,AA,go_sem])|fail))
   rw [ho.plain,hok]
   simp [Ok,tyA,Ty.enc,Ty.Ed,CP]
end Go.Ab
namespace Go.Ab
open Go.Proofs
theorem TG:∀ {l:List TE} {vs:List Str},l.length=vs.length→(∀(j:Nat) (t:TE) (v:Str),l[j]?=some t→vs[j]?=some v→Uq t v=true)→Ef l vs=true
 |[],[],_,_=>rfl
 |[],v::vs,h,_=>by simp at h
 |t::l,[],h,_=>by simp at h
 |t::l,v::vs,h,hp=>by
  rw [Ht,hp 0 t v rfl rfl,TG (by simpa using h) (fun j t' v' h1 h2=>hp (j+1) t' v' h1 h2)]
  rfl
theorem Qf:∀ {l:List TE} {vs:List Str} {j:Nat} {t:TE} {v:Str},l[j]?=some t→vs[j]?=some v→Uq t v=false→Ef l vs=false
 |[],vs,j,t,v,h,_,_=>by simp at h
 |t::l,[],j,t',v,_,h,_=>by simp at h
 |t::l,v::vs,0,t',v',h1,h2,h=>by
  simp only [LO,AK] at h1 h2
  subst h1;subst h2
  rw [Ht,h];rfl
 |t::l,v::vs,j+1,t',v',h1,h2,h=>by
  rw [Ht,Qf (j:=j) (by simpa using h1) (by simpa using h2) h,B3]
structure fX (ps:List DE) (ds:List (Str×Nat)) (vars:List Str):Prop where
 at':∀(i:Nat) (x:Str×Nat),ds[i]?=some x→∃d:DE,ps[i]?=some d∧d.vars.length=x.2
 last:∀x:Str×Nat,ds[ds.length - 1]?=some x→x.2=vars.length
 ne:ds.length≤1000000
theorem WU (ps:List DE) (fs:List FE) (ds:List (Str×Nat)) (vars:List Str) (hh:fX ps ds vars):
 ∀(N:Nat) (t:TE) (whole:Bool) (τ:AF),t.size≤N→t.size≤1000000→AM Tryz.prog 60 [pgA ⟨ps,fs⟩,.d (.sl ((ds.map (·.1)).map BF)),.d (.sl (vars.map BF)),teA t,.d (.bool whole)] τ (fun v σ'=>v=Ok (Hu ds vars whole t)∧σ'=τ):=by
 intro N
 induction N with
 |zero=>intro t whole τ h;have:=TE.size_pos t;omega
 |succ N ihN=>
 rintro ⟨k,n,l⟩ whole τ hN hsz
 simp only [TE.size] at hN hsz
 have hlen:=TE.C9 l
 have hloop:=fun num=>Td ps fs ds vars k num n l τ (by omega) (fun x hx τ'=>by
  have:=TE.Ja hx
  exact ihN x false τ' (by omega) (by omega))
 clear ihN
 refine X0 (by simp) ?_
 rw [gE,teA,TE.A7]
 simp only [pgA,Pg.enc,AI,AO]
 by_cases h4:k=4
 · subst h4
   have hres:Hu ds vars whole (.mk 4 n l)=match Ct vars n with|none=>.error 3|some i=>(Ch ds vars l).map (Ty.mk 4 i):=by
    rw [Hu,if_pos rfl];rfl
   have hi:=Qj vars n τ
   cases hix:Ct vars n with
   |none=>
    rw [hix] at hi hres
    simp only [Ee] at hi hres
    have hneg:decide ((-1:Int) < 0)=true:=by decide
    (repeat' (first|refine Run.ct rfl ?_|((first|refine Run.reg mixed ?_|refine Run.AD ?_|refine Run.A1 EI (AF.le_refl _) ?_|refine AJ.det (hi) ?_)<;>try simp -implicitDefEqProofs only [AU,hneg,go_sem])|fail))
    rw [hres];rfl
   |some i=>
    rw [hix] at hi hres
    simp only [Ee] at hi hres
    have hneg:decide ((i:Int) < 0)=false:=decide_eq_false (by omega)
    rw [hres]
    (repeat' (first|refine Run.ct rfl ?_|((first|refine Run.reg mixed ?_|refine Run.AD ?_|refine AJ.det (hi) ?_)<;>try simp -implicitDefEqProofs only [AU,hneg,AA,go_sem])|fail))
    exact hloop i
 by_cases h5:k=5
 · subst h5
   have hres:Hu ds vars whole (.mk 5 n l)=match Ct (ds.map (·.1)) n with|none=>.error 3|some i=>if l.length≠(ds.getD i ([],0)).2 then .error 5 else if i+1=ds.length∧¬(whole=true∧Ef l vars=true) then .error 7 else (Ch ds vars l).map (Ty.mk 5 i):=by
    rw [Hu,if_neg h4,if_pos rfl];rfl
   have hf:=Qj (ds.map (·.1)) n τ
   cases hix:Ct (ds.map (·.1)) n with
   |none=>
    rw [hix] at hf hres
    simp only [Ee] at hf hres
    have hneg:decide ((-1:Int) < 0)=true:=by decide
    (repeat' (first|refine Run.ct rfl ?_|((first|refine Run.reg mixed ?_|refine Run.AD ?_|refine Run.A1 EI (AF.le_refl _) ?_|refine AJ.det (hf) ?_)<;>try simp -implicitDefEqProofs only [AU,hneg,go_sem])|fail))
    rw [hres];rfl
   |some i=>
    have hsp:=PM hix
    rw [Ah,AE] at hsp
    obtain ⟨x,hx,hxn⟩:=hsp
    obtain ⟨d,hd,hdv⟩:=hh.at' i x hx
    have hil:=(AR.1 hx).1
    have hgd:ds.getD i ([],0)=x:=by rw [BQ,hx];rfl
    rw [hix] at hf hres
    simp only [Ee,hgd] at hf hres
    have hneg:decide ((i:Int) < 0)=false:=decide_eq_false (by omega)
    have hed:=Ay (enc:=DE.enc) hd
    obtain ⟨dn,dvs',dc⟩:=d
    simp only [DE.enc] at hed hdv
    have hcmp:((l.length:Int) != (dvs'.length:Int))=decide (l.length≠x.2):=by
     rw [Ac];simp only [bne_iff_ne,ne_eq,decide_eq_true_eq];omega
    by_cases hA:l.length≠x.2
    · rw [decide_eq_true hA] at hcmp
      rw [if_pos hA] at hres
      (repeat' (first|refine Run.ct rfl ?_|((first|refine Run.reg mixed ?_|refine Run.AD ?_|refine Run.A1 EI (AF.le_refl _) ?_|refine AJ.det (hf) ?_)<;>try simp -implicitDefEqProofs only [AU,hneg,AA,hed,hcmp,go_sem])|fail))
      rw [hres];rfl
    · rw [decide_eq_false hA] at hcmp
      rw [if_neg hA] at hres
      have hdl:=hh.ne
      have hw1:IntKind.i64.wrap ((ds.length:Int) - 1)=((ds.length - 1:Nat):Int):=by rw [BI (by omega) (by omega)];omega
      have hlast:((i:Int)==((ds.length - 1:Nat):Int))=decide (i+1=ds.length):=by
       rw [Ac];simp only [beq_iff_eq,decide_eq_true_eq];omega
      by_cases hB:i+1=ds.length
      · rw [decide_eq_true hB] at hlast
        have hlv:l.length=vars.length:=by
         have:=hh.last x (by rw [show ds.length - 1=i by omega];exact hx)
         omega
        (repeat' (first|refine Run.ct rfl ?_|((first|refine Run.reg mixed ?_|refine Run.AD ?_|refine AJ.det (hf) ?_)<;>try simp -implicitDefEqProofs only [AU,hneg,AA,hed,hcmp,hw1,hlast,go_sem])|fail))
        refine Run.BD ?_
        refine Run.BG ((fun (a1:AV) (a2:AV) (a4:AV) (a5:AV) (a8:AV) (a10:AV) (a12:AV)=>fun (j:Nat)=>put 1 a1 (put 2 a2 (put 4 a4 (put 5 a5 (put 8 a8 (put 10 a10 (put 12 a12 (put 13 (.d (.int .i64 j)) U)))))))) _ _ _ _ _ _ _) (fun _=>BE 5 [.d (.sl (ps.map DE.enc)),.d (.sl (fs.map FE.enc))] (BE 8 [.d (.int .i64 5),.d (.str n),.d (.sl (l.map TE.enc))] (BE 10 [.d (.int .i64 0),.d (.int .i64 0),.AY] (BE 12 [.d (.int .i64 5),.d (.int .i64 i),.AY] E)))) (fun _=>τ)
         (fun j=>j≤l.length∧∀(q:Nat) (t:TE) (v:Str),q < j→l[q]?=some t→vars[q]?=some v→Uq t v=true) (fun j=>l.length - j) ?_ 0 ⟨by simp,fun q _ _ hq=>by omega⟩
        rintro j ⟨hj,hpj⟩ ih2
        by_cases hjl:j < l.length
        · obtain ⟨t,ht⟩:=BC hjl
          obtain ⟨v,hv⟩:=BC (show j < vars.length by omega)
          have het:=Ay (enc:=TE.enc) ht
          have hev:=Ay (enc:=BF) hv
          have hwj:=A6 (show j+1≤9000000000000000000 by omega)
          obtain ⟨tk,tn,tl⟩:=t
          simp only [TE.A7,BF] at het hev
          have hip:Uq (.mk tk tn tl) v=(tk==4&&tn==v):=rfl
          by_cases hk4:tk=4
          · subst hk4
            have hn4:((4:Int) != 4)=false:=by decide
            cases hv2:(tn==v) with
            |true=>
             have hvn:(tn != v)=false:=by simpa [bne] using hv2
             (repeat' (first|refine Run.ct rfl ?_|((first|refine Run.reg mixed ?_|refine Run.AD ?_)<;>try simp -implicitDefEqProofs only [A8 hjl,het,hev,hn4,hvn,Cd,hv2,hwj,AA,go_sem])|fail))
             refine ih2 (j+1) ⟨by omega,fun q t' v' hq h1 h2=>?_⟩ (by omega)
             rcases Br q j with h|h
             · exact hpj q t' v' h h1 h2
             · have:q=j:=by omega
               subst this
               rw [ht] at h1;rw [hv] at h2
               cases h1;cases h2
               rw [hip,hv2];rfl
            |false=>
             have hpb:Ef l vars=false:=Qf ht hv (by rw [hip,hv2];rfl)
             rw [if_pos ⟨hB,by simp [hpb]⟩] at hres
             have hvn:(tn != v)=true:=by simp [bne,hv2]
             (repeat' (first|refine Run.ct rfl ?_|((first|refine Run.reg mixed ?_|refine Run.AD ?_|(refine Run.A1 EI (σ2:=τ) (AF.le_refl _) ?_))<;>try simp -implicitDefEqProofs only [A8 hjl,het,hev,hn4,hvn,Cd,hv2,hwj,AA,go_sem])|fail))
             rw [hres];rfl
          · have hn4:(tk != 4)=true:=by simpa using hk4
            have hpb:Ef l vars=false:=Qf ht hv (by rw [hip,CZ hk4];rfl)
            rw [if_pos ⟨hB,by simp [hpb]⟩] at hres
            (repeat' (first|refine Run.ct rfl ?_|((first|refine Run.reg mixed ?_|refine Run.AD ?_|(refine Run.A1 EI (σ2:=τ) (AF.le_refl _) ?_))<;>try simp -implicitDefEqProofs only [A8 hjl,het,hev,hn4,hwj,AA,go_sem])|fail))
            rw [hres];rfl
        · have hpb:Ef l vars=true:=TG hlv (fun q t v h1 h2=>hpj q t v (by have:=(AR.1 h1).1;omega) h1 h2)
          cases whole with
          |false=>
           rw [if_pos ⟨hB,by simp⟩] at hres
           (repeat' (first|refine Run.ct rfl ?_|((first|refine Run.reg mixed ?_|refine Run.AD ?_|(refine Run.A1 EI (σ2:=τ) (AF.le_refl _) ?_))<;>try simp -implicitDefEqProofs only [Bd hjl,AA,go_sem])|fail))
           rw [hres];rfl
          |true=>
           rw [if_neg (by simp [hpb])] at hres
           rw [hres]
           (repeat' (first|refine Run.ct rfl ?_|((first|refine Run.reg mixed ?_|refine Run.AD ?_)<;>try simp -implicitDefEqProofs only [Bd hjl,AA,go_sem])|fail))
           exact hloop i
      · rw [decide_eq_false hB] at hlast
        rw [if_neg (fun h=>hB h.1)] at hres
        rw [hres]
        (repeat' (first|refine Run.ct rfl ?_|((first|refine Run.reg mixed ?_|refine Run.AD ?_|refine AJ.det (hf) ?_)<;>try simp -implicitDefEqProofs only [AU,hneg,AA,hed,hcmp,hw1,hlast,go_sem])|fail))
        exact hloop i
 · have hres:Hu ds vars whole (.mk k n l)=(Ch ds vars l).map (Ty.mk k 0):=by rw [Hu,if_neg h4,if_neg h5]
   rw [hres]
   (repeat' (first|refine Run.ct rfl ?_|((first|refine Run.reg mixed ?_|refine Run.AD ?_)<;>try simp -implicitDefEqProofs only [CZ h4,CZ h5,AA,go_sem])|fail))
   exact hloop 0
end Go.Ab
namespace Go.Ab
open Go.Proofs
theorem VL (ps:List DE) (fs:List FE) (ds:List (Str×Nat)) (vars:List Str) (hh:fX ps ds vars) (t:TE) (hsz:t.size≤1000000) (nv:AV) (hnv:nv.plain= .d (.sl ((ds.map (·.1)).map BF))) (whole:Bool) (τ:AF):
 AM Tryz.prog 60 [pgA ⟨ps,fs⟩,nv,.d (.sl (vars.map BF)),teA t,.d (.bool whole)] τ (fun v σ'=>v=Ok (Hu ds vars whole t)∧σ'=τ):=by
 refine AM.plain ?_
 have:=WU ps fs ds vars hh t.size t whole τ (A0 _) hsz
 have hp:∀l:List DV,AV.DM (l.map AV.d)=l.map AV.d:=fun l=>by
  induction l with
  |nil=>rfl
  |cons x l ih=>rw [AI,AV.DM,Gc,ih]
 simp only [AV.DM,hnv,Gc,pgA,teA,Ij,hp]
 exact this
theorem aO (Q:AV→AF→Prop) (rest:List CI) (ps:List DE) (fs:List FE) (ds:List (Str×Nat)) (dn:Str) (dvs':List Str) (dcs:List CE) (hh:fX ps ds dvs') (cn:Str) (car:List TE) (ci i:Nat) (hc:dcs[ci]?=some ⟨cn,car⟩) (hsm:∀t∈car,t.size≤1000000) (hal:car.length≤1000)
 (σ0 τ:AF) (out nv used a9 b9 consv:AV) (l:List Ow) (hown:F1 σ0 l τ) (hle:σ0.le τ) (hnv:nv.plain= .d (.sl ((ds.map (·.1)).map BF))) (hnl:nv.BZ=true) (hlp:∀k,nv.Ar k=false∧out.Ar k=false∧used.Ar k=false)
 (herr:∀e,Dm ds dvs' car= .error e→Q (.tup [.d (.sl []),.agg [.d (.int .i64 e),.d (.int .i64 (-1)),.d (.int .i64 i)]]) σ0)
 (hfin:∀us uv τ',Dm ds dvs' car= .ok us→F1 σ0 (⟨57,3,us.map Ty.enc,uv⟩::l) τ'→σ0.le τ'→Run Dq Q rest
   (put 1 (.lp 1 0) (put 3 (.lp 3 0) (put 4 out (put 5 nv (put 6 used (put 7 (.d (.int .i64 i)) (put 8 (.lp 8 0) (put 9 (.lp 9 0) (put 10 (.d (.int .i64 ci)) (put 11 (.lp 11 0) (put 12 (.d (.int .i64 car.length)) (put 96 (.d (.bool false)) U))))))))))))
   (BE 1 [.d (.sl (ps.map DE.enc)),.d (.sl (fs.map FE.enc))] (BE 3 [.d (.int .i64 0),.d (.int .i64 0),.d (.int .i64 0)] (BE 8 [.d (.str dn),.d (.sl (dvs'.map BF)),.d (.sl (dcs.map CE.enc))] (BE 9 [a9,b9,consv] (BE 11 [.d (.str cn),uv] E))))) τ'):
 Run Dq Q (.code (.loop RK)::.blk 4::rest)
  (put 1 (.lp 1 0) (put 3 (.lp 3 0) (put 4 out (put 5 nv (put 6 used (put 7 (.d (.int .i64 i)) (put 8 (.lp 8 0) (put 9 (.lp 9 0) (put 10 (.d (.int .i64 ci)) (put 11 (.lp 11 0) (put 12 (.d (.int .i64 0)) U)))))))))))
  (BE 1 [.d (.sl (ps.map DE.enc)),.d (.sl (fs.map FE.enc))] (BE 3 [.d (.int .i64 0),.d (.int .i64 0),.d (.int .i64 0)] (BE 8 [.d (.str dn),.d (.sl (dvs'.map BF)),.d (.sl (dcs.map CE.enc))] (BE 9 [a9,b9,consv] (BE 11 [.d (.str cn),.AY] E))))) τ:=by
 have hlp1:=fun k=>(hlp k).1
 have hlp2:=fun k=>(hlp k).2.1
 have hlp3:=fun k=>(hlp k).2.2
 have hec:=Ay (enc:=CE.enc) hc
 simp only [CE.enc] at hec
 refine Run.BD ?_
 refine Run.BG ((fun (a1:AV) (a3:AV) (a4:AV) (a5:AV) (a6:AV) (a7:AV) (a8:AV) (a9:AV) (a10:AV) (a11:AV)=>fun (y:Nat×List Ty×AV×AF)=>put 1 a1 (put 3 a3 (put 4 a4 (put 5 a5 (put 6 a6 (put 7 a7 (put 8 a8 (put 9 a9 (put 10 a10 (put 11 a11 (put 12 (.d (.int .i64 y.1)) U))))))))))) _ _ _ _ _ _ _ _ _ _) (fun y=>BE 1 [.d (.sl (ps.map DE.enc)),.d (.sl (fs.map FE.enc))] (BE 3 [.d (.int .i64 0),.d (.int .i64 0),.d (.int .i64 0)] (BE 8 [.d (.str dn),.d (.sl (dvs'.map BF)),.d (.sl (dcs.map CE.enc))] (BE 9 [a9,b9,consv] (BE 11 [.d (.str cn),y.2.2.1] E))))) (fun y=>y.2.2.2)
  (fun y=>y.1≤car.length∧y.2.1.length=y.1∧Dm ds dvs' (car.take y.1)= .ok y.2.1∧F1 σ0 (⟨57,3,y.2.1.map Ty.enc,y.2.2.1⟩::l) y.2.2.2∧σ0.le y.2.2.2) (fun y=>car.length - y.1) ?_ (0,[],.AY,τ) ⟨by simp,rfl,rfl,hown.nil hle 57 3,hle⟩
 rintro ⟨k,us,uv,τ1⟩ ⟨hk,hlu,hok,ho,hle1⟩ ih2
 simp only at hk hlu hok ho hle1
 have hoh:=ho.head
 simp only at hoh
 by_cases hlt:k < car.length
 · obtain ⟨x,hx⟩:=BC hlt
   have he:=Ay (enc:=TE.enc) hx
   have hw1:=A6 (show k+1≤9000000000000000000 by omega)
   have hall:Dm ds dvs' car=(Dm ds dvs' (x::car.drop (k+1))).map (us++·):=by
    conv=>lhs;rw [← A4 k car,Bb hx]
    exact ME _ _ _ hok
   have hsn:Dm ds dvs' (car.take (k+1))=(Dm ds dvs' [x]).map (us++·):=by
    rw [Aw hx];exact ME _ _ _ hok
   rw [Dm] at hall
   rw [Dm,Dm] at hsn
   have hcl:=VL ps fs ds dvs' hh x (hsm x (AT hx)) nv hnv true τ1
   simp only [pgA,Pg.enc,AI,AO] at hcl
   cases hr:Hu ds dvs' true x with
   |error e=>
    rw [hr] at hcl hall
    simp only [CP] at hall
    have hxe:=herr e hall
    have hne:=Rg x true e hr
    have hne':(e != 0)=true:=by simpa using hne
    obtain ⟨xk,xn,xl⟩:=x
    simp only [TE.A7,teA,AI,AO,Ok] at he hcl
    (repeat' (first|refine Run.ct rfl ?_|((first|refine Run.reg mixed ?_|refine Run.AD ?_|(refine AJ.mk (by simp only [BU,Cr,hnl,Am,BA];rfl) hcl ?_;rintro _ _ ⟨rfl,rfl⟩)|(refine Run.A1 If (σ2:=σ0) hle1 ?_))<;>try simp -implicitDefEqProofs only [A8 hlt,hec,he,hne',hoh.cell,AA,hlp1,hlp2,hlp3,go_sem])|fail))
    exact hxe
   |ok u=>
    rw [hr] at hcl hsn
    simp only [CP] at hsn
    obtain ⟨uk,un,ul⟩:=u
    obtain ⟨xk,xn,xl⟩:=x
    simp only [TE.A7,teA,AI,AO,Ok,tyA,Ty.enc] at he hcl
    have h00:((0:Int) != 0)=false:=by decide
    (repeat' (first|refine Run.ct rfl ?_|((first|refine Run.reg mixed ?_|refine Run.AD ?_|(refine AJ.mk (by simp only [BU,Cr,hnl,Am,BA];rfl) hcl ?_;rintro _ τ1 ⟨rfl,rfl⟩)|(refine Dy.aE (cx:=Dq) ho rfl (by simp) (by simp;omega) (by decide) (fun v2 σ2 ho2 hbk=>?_)))<;>try simp -implicitDefEqProofs only [A8 hlt,hec,he,hw1,h00,hoh.cell,hoh.cells,hoh.BZ,hoh.Ar,AA,hlp1,hlp2,hlp3,go_sem])|fail))
    have ho2h:=ho2.head
    simp only at ho2h
    simp -implicitDefEqProofs only [ho2h.cells,ho2h.cell,go_sem]
    (repeat' (first|refine Run.ct rfl ?_|((first|refine Run.reg mixed ?_|refine Run.AD ?_)<;>try simp -implicitDefEqProofs only [hw1,ho2h.cell,ho2h.cells,go_sem])|fail))
    exact ih2 (k+1,us++[.mk uk un ul],v2,σ2) ⟨by simp only;omega,by simp [hlu],hsn,by simpa [Ty.enc] using ho2,ho2h.le⟩ (by simp only;omega)
 · rw [AH (by omega)] at hok
   have:=hfin us uv τ1 hok ho hle1
   (repeat' (first|refine Run.ct rfl ?_|((first|refine Run.reg mixed ?_|refine Run.AD ?_)<;>try simp -implicitDefEqProofs only [Bd hlt,hec,AA,go_sem])|fail))
   have hke:k=car.length:=by omega
   subst hke
   exact this
end Go.Ab
