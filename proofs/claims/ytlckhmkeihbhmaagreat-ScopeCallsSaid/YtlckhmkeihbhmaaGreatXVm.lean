/- Scope: a declaration resolved. Scope: the declarations resolved. Scope: Data. Scope: what a valid program promises. Scope: Check. Conditions: none. -/
import Derived.Test.YtlckhmkeihbhmaaGreatXVi
set_option linter.unusedSimpArgs false
set_option linter.unusedVariables false
set_option maxRecDepth 4000
set_option maxHeartbeats 8000000
open List renaming map_cons→AI,map_nil→AO,length_map→AA,eq_nil_of_length_eq_zero→BB,take_append_drop→A4,length_drop→Bm,drop_drop→Du,nil_append→Au,append_nil→Aq,cons_append→Ad,append_assoc→Ag,flatMap_cons→MB,mem_cons→Bf,mem_cons_self→BT,mem_cons_of_mem→B8,all_eq_true→As,length_take→Aj,mem_of_mem_take→Bk,mem_of_getElem?→AT,take_of_length_le→AH,mem_append→A3,getElem?_take→BN,getElem?_map→Ah,getElem?_eq_some_iff→AR
open Option renaming isSome_some→Bp,isSome_none→CD,bind_eq_bind→AN,bind_eq_some_iff→AB,isSome_iff_exists→TR
open Bool renaming true_or→J0,false_or→DP,false_eq_true→AZ,and_eq_true→AQ
open Except renaming map→CP
open Nat renaming min_eq_left→CO,le_trans→BR,le_refl→A0,add_zero→Dx,zero_add→Ak,lt_or_ge→Br
open Prod.mk renaming injEq→B6
open Option.some renaming injEq→AK
namespace Go.Ab
open Go.Proofs
def oY (σ0:AF) (jr:Nat) (dl:List Dat) (nm:Str) (vs:List Str) (cs:List CE) (x1 x2 x3:AV) (F':Fm) (L':Lm) (σ':AF):Prop:=
 ∃jd cells,M4 [0,3] F'=put 0 (.gp jr 0) (put 3 (.lp 3 0) U)∧I1 [0,3] L'=BE 3 [.d (.str nm),.d (.sl (vs.map BF)),.d (.sl (cs.map CE.enc))] E∧APS σ0 jr dl nm vs.length .AY x1 x2 x3 jd cells σ'
theorem APS.st {σ0 τ:AF} {jr:Nat} {dl:List Dat} {nm:Str} {k:Int} {cv x1 x2 x3:AV} {jd:Nat} {cs:List AV} (h:APS σ0 jr dl nm k cv x1 x2 x3 jd cs τ) (hjr:σ0.blk jr=none) (y1 y2 y3:AV):
 APS σ0 jr dl nm k cv y1 y2 y3 jd cs (τ.AP jr [.ms jd (dl.length+1) 3 eD,y1,y2,y3]):=
 ⟨by rw [AL,if_pos rfl],h.nb,h.ne,by rw [AL,if_neg h.ne];exact h.row,h.ok,C1 h.le hjr⟩
theorem Za (σ0:AF) (jr:Nat) (dl:List Dat) (hdl:dl.length≤1000) (hnn:∀d∈dl,0≤d.vars) (hdt:QS dl) (nm:Str) (vs:List Str) (cs:List CE) (hcs:cs.length≤1000) (hsm:∀c∈cs,PS c∧c.args.length≤1000)
 (τ:AF) (dv x1 x2 x3:AV) (hb:τ.blk jr=some [dv,x1,x2,x3]) (hx:x1.BW=true∧x2.BW=true∧x3.BW=true) (hv:DlX σ0 jr τ dl dv) (hle:σ0.le τ) (hjr:σ0.blk jr=none):
 AM Tryz.prog 72 [.gp jr 0,deA ⟨nm,vs,cs⟩] τ (DQ σ0 jr dl (Nd (E5 dl) (Gz dl) ⟨nm,vs,cs⟩)):=by
 refine Ll (by simp [deA]) ?_
 rw [BY]
 simp only [DE.enc,deA,AI,AO]
 have hfi:=bT dl dv [x1,x2,x3] jr nm τ (by omega) hb hv.dls
 have hrep:=L5 vs τ
 have hap:=fun K=>YJ σ0 jr dl hdl nm vs cs τ dv x1 x2 x3 hb hx hv hle hjr K
 have hds:(E5 dl).map (·.1)=I9 dl:=U9 dl
 unfold Nd
 simp only [hds]
 have hin:(Ct (I9 dl) nm).isSome=(I9 dl).contains nm:=GW _ _
 cases hc:Ct (I9 dl) nm with
 |some i=>
  rw [hc] at hin hfi
  simp only [Bp] at hin
  have hge:decide ((0:Int)≤(i:Int))=true:=by simp
  rw [← hin]
  simp only [J0,if_true]
  simp only [Ee] at hfi
  (repeat' (first|refine Run.ct rfl ?_|((first|refine Run.reg mixed ?_|refine Run.AD ?_|refine Run.Fu CH (AF.le_refl _) ?_|refine AJ.det (hfi) ?_)<;>try simp -implicitDefEqProofs only [hge,go_sem])|fail))
  exact ⟨rfl,by decide,hle⟩
 |none=>
 rw [hc] at hin hfi
 simp only [CD] at hin
 rw [← hin]
 simp only [Ee] at hfi
 have hge:decide ((0:Int)≤-1)=false:=by decide
 cases ht:CC vs with
 |true=>
  rw [ht] at hrep
  simp only [DP,if_true]
  (repeat' (first|refine Run.ct rfl ?_|((first|refine Run.reg mixed ?_|refine Run.AD ?_|refine Run.Fu CH (AF.le_refl _) ?_|refine AJ.det (hfi) ?_|refine AJ.det (hrep) ?_)<;>try simp -implicitDefEqProofs only [hge,go_sem])|fail))
  exact ⟨rfl,by decide,hle⟩
 |false=>
 rw [ht] at hrep
 simp only [DP,AZ,if_false]
 (repeat' (first|refine Run.ct rfl ?_|((first|refine Run.reg mixed ?_|refine Run.AD ?_|refine AJ.det (hfi) ?_|refine AJ.det (hrep) ?_)<;>try simp -implicitDefEqProofs only [hge,go_sem])|fail))
 refine Run.cF mixed (oY σ0 jr dl nm vs cs x1 x2 x3) (hap _ (fun F' L' σ' jd cells h1 h2 h3=>⟨jd,cells,h1,h2,h3⟩)) ?_
 rintro F' L' σ' ⟨jd,cells,h1,h2,h3⟩
 rw [h1,h2]
 have hres:=h3.res
 have h4:=h3.st hjr (.d (.str nm)) (.d (.sl (vs.map BF))) (.d (.sl (cs.map CE.enc)))
 have hres4:=h4.res
 have hw:IntKind.i64.wrap (((dl.length+1:Nat):Int) - 1)=(dl.length:Int):=by
  exact Io (by omega)
 (repeat' (first|refine Run.ct rfl ?_|((first|refine Run.reg mixed ?_|refine Run.AD ?_)<;>try simp -implicitDefEqProofs only [hres,hres4,hw,AA,go_sem])|fail))
 exact Z9 σ0 jr dl hdl hnn hdt nm vs cs hcs hsm _ jd cells hjr h4
end Go.Ab
namespace Go.Ab
open Go.Proofs
theorem Hd.enc:∀ {dl:List Dat} {cs:List AV},Hd cs dl→∃ds,dvs cs=some ds∧chunk 3 dl.length ds=dl.map Dat.enc
 |[],cs,h=>by
  have:cs=[]:=BB (by simpa using h.1)
  subst this
  exact ⟨[],rfl,rfl⟩
 |d::dl,cs,h=>by
  obtain ⟨cv,h1,h2⟩:=h.2 0 d rfl
  simp only [Nat.zero_mul,List.drop_zero] at h1
  have hcs:cs= .d (.str d.name)::.d (.int .i64 d.vars)::cv::cs.drop 3:=by
   conv=>lhs;rw [← A4 3 cs,h1]
   rfl
  have ht:Hd (cs.drop 3) dl:=by
   refine ⟨by rw [Bm,h.1];simp;omega,fun i x hx=>?_⟩
   obtain ⟨cv',h3,h4⟩:=h.2 (i+1) x hx
   refine ⟨cv',?_,h4⟩
   rw [Du,← h3]
   congr 2
   omega
  obtain ⟨ds,h5,h6⟩:=Hd.enc ht
  refine ⟨.str d.name::.int .i64 d.vars::.sl (d.cons.map Con.enc)::ds,?_,?_⟩
  · rw [hcs]
    have hcv:=h2.dv
    have e1:(AV.d (.str d.name)).dv=some (.str d.name):=rfl
    have e2:(AV.d (.int .i64 d.vars)).dv=some (.int .i64 d.vars):=rfl
    simp [dvs,hcv,h5,e1,e2]
  · simp [chunk,h6,Dat.enc]
def dgA (d:Dg):AV:= .agg [.d (.int .i64 d.1),.d (.int .i64 d.2.1),.d (.int .i64 d.2.2)]
def OV:Except Dg (List Dat)→AV
 | .ok dt=>.tup [dsA dt,dgA (0,0,0)]
 | .error d=>.tup [dsA [],dgA d]
theorem YI {ds:List (Str×Nat)} {used:List Str} {d:DE} {x:Dat} (h:Nd ds used d= .ok x):x.name=d.name∧x.vars=d.vars.length∧x.cons.map (·.name)=d.cons.map (·.name):=by
 unfold Nd at h
 split at h
 · cases h
 · cases hc:Ep (ds++[(d.name,d.vars.length)]) d.vars used d.cons with
   |error e=>rw [hc] at h;cases h
   |ok us=>
    rw [hc] at h
    cases h
    exact ⟨rfl,rfl,(KN _ _ [] hc).2⟩
theorem MT (m:List DE):∀ {l done:List DE} {xs:List Dat},DJ done l= .ok xs→DJ done (l++m)=(DJ (done++l) m).map (xs++·)
 |[],done,xs,h=>by
  cases h
  simp only [Au,Aq]
  cases DJ done m<;>rfl
 |d::l,done,xs,h=>by
  rw [DJ] at h
  rw [Ad,DJ]
  cases hd:Nd (Cq done) (I3 done) d with
  |error e=>rw [hd] at h;cases h
  |ok x=>
   rw [hd] at h
   simp only at h ⊢
   cases hl:DJ (done++[d]) l with
   |error e=>rw [hl] at h;cases h
   |ok ys=>
    rw [hl] at h
    cases h
    rw [MT m hl,Ag]
    simp only [Ad,Au]
    cases DJ (done++d::l) m<;>rfl
theorem HY:∀ {l done:List DE} {xs:List Dat},DJ done l= .ok xs→E5 xs=Cq l∧Gz xs=I3 l∧xs.length=l.length∧(∀x∈xs,0≤x.vars)∧(∀n,(∀d∈l,d.cons.length≤n)→∀x∈xs,x.cons.length≤n)
 |[],done,xs,h=>by cases h;simp [E5,Cq,Gz,I3]
 |d::l,done,xs,h=>by
  rw [DJ] at h
  cases hd:Nd (Cq done) (I3 done) d with
  |error e=>rw [hd] at h;cases h
  |ok x=>
   rw [hd] at h
   simp only at h
   cases hl:DJ (done++[d]) l with
   |error e=>rw [hl] at h;cases h
   |ok ys=>
    rw [hl] at h
    cases h
    obtain ⟨f1,f2,f3⟩:=YI hd
    obtain ⟨g1,g2,g3,g4,g5⟩:=HY hl
    have f4:x.cons.length=d.cons.length:=by simpa using congrArg List.length f3
    refine ⟨?_,?_,by simp [g3],?_,?_⟩
    · simp [E5,Cq,f1,f2] at g1 ⊢;exact g1
    · simp only [Gz,I3,MB,f3] at g2 ⊢;rw [g2]
    · intro y hy
      rcases Bf.1 hy with rfl|hy
      · rw [f2];omega
      · exact g4 y hy
    · intro n hn y hy
      rcases Bf.1 hy with rfl|hy
      · rw [f4];exact hn d (BT ..)
      · exact g5 n (fun z hz=>hn z (B8 _ hz)) y hy
end Go.Ab
namespace Go.Ab
open Go.Proofs
theorem Me {p:Pg} (hv:EJ p=true) (h:∀d∈p.data,Gd d):p.data.length≤12∧∀d∈p.data,d.cons.length≤1000∧∀c∈d.cons,PS c∧c.args.length≤1000:=by
 simp only [EJ,AQ,decide_eq_true_eq,As] at hv
 obtain ⟨⟨⟨h1,_⟩,h2⟩,_⟩:=hv
 refine ⟨h1,fun d hd=>?_⟩
 have:=h2 d hd
 simp only [LX,AQ,decide_eq_true_eq,As] at this
 obtain ⟨⟨_,h3⟩,h4⟩:=this
 refine ⟨by omega,fun c hc=>⟨h d hd c hc,?_⟩⟩
 have:=h4 c hc
 simp only [Vz,AQ,decide_eq_true_eq] at this
 omega
theorem hZ {σ τ:AF} (h:σ.le τ):σ.le { τ with blk:=fun j=>if (σ.blk j).isSome then τ.blk j else none}:=
 ⟨fun i cs hi=>by simp only [hi,Bp,if_true];exact h.blk i cs hi,h.tok,h.gt,h.bt⟩
theorem W3 (p:Pg) (σ:AF) (h:∀d∈p.data,Gd d):AM Tryz.prog 44 [pgA p] σ (fun v σ'=>v=OV (MU p)∧σ'=σ):=by
 have hval:=Tr p σ h
 refine X1 (by simp) ?_
 rw [Bg]
 unfold MU
 cases hvb:EJ p with
 |false=>
  rw [hvb] at hval
  obtain ⟨ds,fs⟩:=p
  simp only [pgA,Pg.enc,AI,AO] at hval ⊢
  (repeat' (first|refine Run.ct rfl ?_|((first|refine Run.reg mixed ?_|refine Run.AD ?_|(refine Run.A1 Hk (σ2:=σ) (AF.le_refl _) ?_)|refine AJ.det (hval) ?_)<;>try simp -implicitDefEqProofs only [go_sem])|fail))
  rfl
 |true=>
 rw [hvb] at hval
 obtain ⟨hpl,hps⟩:=Me hvb h
 obtain ⟨ds,fs⟩:=p
 simp only [pgA,Pg.enc,AI,AO] at hval hpl hps ⊢
 (repeat' (first|refine Run.ct rfl ?_|((first|refine Run.reg mixed ?_|refine Run.AD ?_|refine AJ.det (hval) ?_)<;>try simp -implicitDefEqProofs only [AA,go_sem])|fail))
 intro jr hj
 generalize hQ:(fun (v:AV) (σ':AF)=>v=OV (match DJ [] ds with| .error (e,i)=>.error (e,-1,(i:Int))| .ok l=>.ok l)∧σ'=σ)=Q
 have herr:∀(e:Int) (i:Nat),DJ [] ds= .error (e,i)→Q (.tup [.d (.sl []),.agg [.d (.int .i64 e),.d (.int .i64 (-1)),.d (.int .i64 i)]]) σ:=fun e i hd=>by
  rw [← hQ,hd];exact ⟨rfl,rfl⟩
 have hok:∀(l:List Dat),DJ [] ds= .ok l→Q (.tup [dsA l,.agg [.d (.int .i64 0),.d (.int .i64 0),.d (.int .i64 0)]]) σ:=fun l hd=>by
  rw [← hQ,hd];exact ⟨rfl,rfl⟩
 clear hQ
 have hle0:=Bj (cs:=[AV.AY,.d (.str []),.AY,.AY]) hj
 (repeat' (first|refine Run.ct rfl ?_|((first|refine Run.reg mixed ?_|refine Run.AD ?_)<;>try simp -implicitDefEqProofs only [AA,go_sem])|fail))
 refine Run.BD ?_
 refine Run.BG ((fun (a3:AV) (a4:AV) (a15:AV) (a16:AV)=>fun (y:Nat×List Dat×AF)=>put 3 a3 (put 4 a4 (put 15 a15 (put 16 a16 (put 17 (.d (.int .i64 y.1)) U))))) _ _ _ _) (fun _=>BE 3 [.d (.int .i64 0),.d (.int .i64 0),.d (.int .i64 0)] E) (fun y=>y.2.2)
  (fun y=>y.1≤ds.length∧DJ [] (ds.take y.1)= .ok y.2.1∧∃dv y1 y2 y3,y.2.2.blk jr=some [dv,y1,y2,y3]∧(y1.BW=true∧y2.BW=true∧y3.BW=true)∧DlX σ jr y.2.2 y.2.1 dv∧σ.le y.2.2)
  (fun y=>ds.length - y.1) ?_ (0,[],_) ⟨by simp,rfl,.AY,.d (.str []),.AY,.AY,by simp only [AL,if_true],⟨rfl,rfl,rfl⟩,.inl ⟨rfl,rfl⟩,hle0⟩
 rintro ⟨i,dl,τ⟩ ⟨hi,hgo,dv,y1,y2,y3,hb,hx,hv,hle⟩ ih
 simp only at hi hgo hb hv hle
 obtain ⟨f1,f2,f3,f4,f5⟩:=HY hgo
 have hlen:dl.length=i:=by rw [f3,Aj];omega
 by_cases hlt:i < ds.length
 · obtain ⟨d,hd⟩:=BC hlt
   have he:=Ay (enc:=DE.enc) hd
   have hw1:=A6 (show i+1≤9000000000000000000 by omega)
   have hdt:QS dl:=f5 1000000 (fun d hd=>by have:=(hps d (Bk hd)).1;omega)
   obtain ⟨hc1,hc2⟩:=hps d (AT hd)
   obtain ⟨nm,vs,cs⟩:=d
   have hc:=Za σ jr dl (by omega) f4 hdt nm vs cs hc1 hc2 τ dv y1 y2 y3 hb hx hv hle hj
   have hall:DJ [] ds=(DJ (ds.take i) (⟨nm,vs,cs⟩::ds.drop (i+1))).map (dl++·):=by
    conv=>lhs;rw [← A4 i ds,Bb hd]
    exact MT _ hgo
   have hsn:DJ [] (ds.take (i+1))=(DJ (ds.take i) [⟨nm,vs,cs⟩]).map (dl++·):=by
    rw [Aw hd];exact MT _ hgo
   rw [DJ,← f1,← f2] at hall hsn
   simp only [DE.enc,deA,AI,AO] at he hc
   cases hr:Nd (E5 dl) (Gz dl) ⟨nm,vs,cs⟩ with
   |error e=>
    rw [hr] at hc hall
    simp only [CP,Aj,CO hi] at hall
    have hc':=AM.mono hc (Q':=fun v σ'=>v= .d (.int .i64 e)∧e≠0∧σ.le σ') (fun v σ' h=>h)
    (repeat' (first|refine Run.ct rfl ?_|((first|refine Run.reg mixed ?_|refine Run.AD ?_|(refine AJ.mk rfl hc' ?_;rintro _ τ' ⟨rfl,hne,hle'⟩))<;>try simp -implicitDefEqProofs only [A8 hlt,he,go_sem])|(refine ⟨fun h=>?_,fun h=>?_⟩<;>first|(cases h;done)|try simp only [h])|fail))
    case refine_2=>exact absurd ‹(e != 0)=false› (by simp [hne])
    (repeat' (first|refine Run.ct rfl ?_|((first|refine Run.reg mixed ?_|refine Run.AD ?_|(refine Run.A1 Hk (σ2:=σ) hle' ?_))<;>try simp -implicitDefEqProofs only [go_sem])|fail))
    exact herr e i hall
   |ok x=>
    rw [hr] at hc hsn
    simp only [DJ,CP] at hsn
    have hc':=AM.mono hc (Q':=fun v σ'=>v= .d (.int .i64 0)∧σ.le σ'∧∃dv y1 y2 y3,σ'.blk jr=some [dv,y1,y2,y3]∧(y1.BW=true∧y2.BW=true∧y3.BW=true)∧DlX σ jr σ' (dl++[x]) dv) (fun v σ' h=>h)
    have h00:((0:Int) != 0)=false:=by decide
    (repeat' (first|refine Run.ct rfl ?_|((first|refine Run.reg mixed ?_|refine Run.AD ?_|(refine AJ.mk rfl hc' ?_;rintro _ τ' ⟨rfl,hle',dv',z1,z2,z3,hb',hx',hv'⟩))<;>try simp -implicitDefEqProofs only [A8 hlt,he,hw1,go_sem])|(refine ⟨fun h=>?_,fun h=>?_⟩<;>first|(cases h;done)|try simp only [h])|fail))
    (repeat' (first|refine Run.ct rfl ?_|((first|refine Run.reg mixed ?_|refine Run.AD ?_)<;>try simp -implicitDefEqProofs only [h00,hw1,go_sem])|fail))
    exact ih (i+1,dl++[x],τ') ⟨by simp only;omega,hsn,dv',z1,z2,z3,hb',hx',hv',hle'⟩ (by simp only;omega)
 · rw [AH (by omega)] at hgo
   have hfin:=hok dl hgo
   rcases hv with ⟨rfl,rfl⟩|⟨jd,cells,rfl,hn,hne,hbd,hrows⟩
   · (repeat' (first|refine Run.ct rfl ?_|((first|refine Run.reg mixed ?_|refine Run.AD ?_|(refine Run.A1 Hk (σ2:=σ) hle ?_))<;>try simp -implicitDefEqProofs only [Bd hlt,hb,go_sem])|fail))
     exact hfin
   · obtain ⟨dvl,hdv,hch⟩:=hrows.enc
     (repeat' (first|refine Run.ct rfl ?_|((first|refine Run.reg mixed ?_|refine Run.AD ?_)<;>try simp -implicitDefEqProofs only [Bd hlt,hb,go_sem])|fail))
     refine Run.freeze (F':=put 2 (dsA dl) (put 3 (.lp 3 0) U)) (σ':= { τ with blk:=fun j=>if (σ.blk j).isSome then τ.blk j else none}) hbd hdv hrows.1 (BR (show dl.length≤12 by omega) (by decide)) (fun s=>?_) (fun k cs' hk=>⟨cs',hk,.inl rfl⟩) (fun j cs' hj'=>?_) (fun _ h=>h) ?_
     · by_cases h2:s=2
       · subst h2
         right
         simp only [Dn,if_true,frz,and_self,dsA,hch]
       · left
         simp only [Dn,if_neg h2]
     · simp only at hj'
       cases hs:σ.blk j with
       |none=>rw [hs] at hj';cases hj'
       |some c=>
        rw [hs] at hj'
        exact ⟨(fun e=>by rw [e,hn] at hs;cases hs),cs',hj',.inl rfl⟩
     · refine Run.A1 Hk (σ2:=σ) (hZ hle) ?_
       simp -implicitDefEqProofs only [QM,dsA,go_sem]
       exact hfin
end Go.Ab
namespace Go.Ab
open Go.Proofs
theorem Zx {a:Nat}:∀ {l:List Nat},a∈l→a≤l.sum
 |x::l,h=>by
  rw [List.sum_cons]
  rcases Bf.1 h with rfl|h
  · omega
  · have:=Zx h;omega
def nb1 (e:Ex):Prop:=L2 e.op e.name e.num e.names e.kids.length e.alts=true
def NB (e:Ex):Prop:=nb1 e∧∀k∈e.kids,nb1 k
theorem MV {α:Type} {f:Nat→α→Option Nat} {sz:α→Nat} {Q:α→Prop}:∀(l:List α) (q r:Nat),(∀x∈l,∀a b,f a x=some b→sz x+b=a∧Q x)→l.foldlM f q=some r→(l.map sz).sum+r=q∧∀x∈l,Q x
 |[],q,r,_,h=>by simp at h;simp [h]
 |x::l,q,r,hf,h=>by
  rw [List.foldlM_cons,AN,AB] at h
  obtain ⟨b,hb,h⟩:=h
  obtain ⟨h1,h2⟩:=hf x (BT ..) q b hb
  obtain ⟨h3,h4⟩:=MV l b r (fun y hy=>hf y (B8 _ hy)) h
  refine ⟨by simp;omega,fun y hy=>?_⟩
  rcases Bf.1 hy with rfl|hy
  · exact h2
  · exact h4 y hy
theorem Ex.Il:∀l:List Ex,Ex.A2 l=(l.map Ex.size).sum
 |[]=>rfl
 |x::l=>by simp [Ex.A2,Ex.Il l]
theorem Al.Il:∀l:List Al,Al.A2 l=(l.map Al.size).sum
 |[]=>rfl
 |x::l=>by simp [Al.A2,Al.Il l]
theorem SY {o:Int} {n:Str} {ns sc:List Str} {x:Ex×List Str}:∀ {l:List Ex} {i:Nat},x∈Bi o n ns sc i l→∃k∈l,∃sc',x∈B7 k sc'
 |[],i,h=>by simp [Bi] at h
 |k::l,i,h=>by
  rw [Bi,A3] at h
  rcases h with h|h
  · exact ⟨k,BT ..,_,h⟩
  · obtain ⟨k',h1,h2⟩:=SY h
    exact ⟨k',B8 _ h1,h2⟩
theorem PN {sc:List Str} {x:Ex×List Str}:∀ {l:List Al},x∈Bx sc l→∃a∈l,x∈S3 a sc
 |[],h=>by simp [Bx] at h
 |k::l,h=>by
  rw [Bx,A3] at h
  rcases h with h|h
  · exact ⟨k,BT ..,h⟩
  · obtain ⟨k',h1,h2⟩:=PN h
    exact ⟨k',B8 _ h1,h2⟩
theorem PB:∀(d q:Nat) (e:Ex) (r:Nat),vEx d q e=some r→e.size+r=q∧(nb1 e∧∀sc x,x∈B7 e sc→NB x.1)
 |0,q,e,r,h=>by simp [vEx] at h
 |d+1,0,.mk ..,r,h=>by cases h
 |d+1,q+1,.mk o n u ns ks al,r,h=>by
  simp only [vEx] at h
  split at h
  · rename_i hn
    rw [AB] at h
    obtain ⟨c,hc,h⟩:=h
    obtain ⟨h1,h2⟩:=MV (sz:=Ex.size) (Q:=fun e=>nb1 e∧∀sc x,x∈B7 e sc→NB x.1) ks q c (fun x _ a b hab=>PB d a x b hab) hc
    obtain ⟨h3,h4⟩:=MV (sz:=Al.size) (Q:=fun a=>∀sc x,x∈S3 a sc→NB x.1) al c r (fun x _ a b hab=>by
     cases x with
     |mk cc vs bd=>
      obtain ⟨g1,g2⟩:=PB d a _ b hab
      exact ⟨g1,fun sc x hx=>g2.2 _ x (by rw [S3] at hx;exact hx)⟩) h
    have hnb:nb1 (.mk o n u ns ks al):=hn
    refine ⟨by rw [Ex.size,Ex.Il,Al.Il];omega,hnb,fun sc x hx=>?_⟩
    rw [B7,Bf,A3] at hx
    rcases hx with rfl|hx|hx
    · exact ⟨hnb,fun k hk=>(h2 k hk).1⟩
    · obtain ⟨k,hk,sc',hx⟩:=SY hx
      exact (h2 k hk).2 sc' x hx
    · obtain ⟨a,ha,hx⟩:=PN hx
      exact h4 a ha _ x hx
  · simp at h
theorem iH {s:Str} (h:EO s=true):s≠[]:=by
 rintro rfl
 revert h;decide
theorem Y5 {e:Ex} (h:nb1 e) (ho:e.op=4):e.name≠[]:=by
 unfold nb1 L2 nmB at h
 simp only [ho,AQ,if_true] at h
 exact iH h.1.1.1.1
theorem NB.nD {e:Ex} (h:NB e) (hs:e.size≤1000000):YR e:=by
 obtain ⟨h1,h2⟩:=h
 obtain ⟨o,n,u,ns,ks,al⟩:=e
 simp only [Ex.size] at hs
 have hkl:=Ex.C9 ks
 have hal:=Al.C9 al
 refine ⟨Y5 h1,fun ho=>?_,by simp only [Ex.alts];omega,by simp only [Ex.kids];omega⟩
 simp only [Ex.op] at ho
 subst ho
 unfold nb1 L2 nkB at h1
 simp only [Ex.op,Ex.kids,AQ] at h1
 have h3:=h1.2
 simp at h3
 cases ks with
 |nil=>simp at h3
 |cons k ks=>exact ⟨k,ks,rfl,fun hk=>Y5 (h2 k (BT ..)) hk⟩
theorem Uu:∀(N:Nat) (e:Ex) (sc:List Str) (x:Ex×List Str),e.size≤N→x∈B7 e sc→x.1.size≤e.size
 |0,e,sc,x,h,_=>by have:=Ex.size_pos e;omega
 |N+1,.mk o n u ns ks al,sc,x,h,hx=>by
  rw [B7,Bf,A3] at hx
  rw [Ex.size] at h ⊢
  have hmk:∀k∈ks,k.size≤Ex.A2 ks:=fun k hk=>by
   rw [Ex.Il];exact Zx (List.mem_map_of_mem hk)
  have hma:∀k∈al,k.size≤Al.A2 al:=fun k hk=>by
   rw [Al.Il];exact Zx (List.mem_map_of_mem hk)
  rcases hx with rfl|hx|hx
  · rw [Ex.size];omega
  · obtain ⟨k,hk,sc',hx⟩:=SY hx
    have:=Uu N k sc' x (by have:=hmk k hk;omega) hx
    have:=hmk k hk
    omega
  · obtain ⟨a,ha,hx⟩:=PN hx
    have h1:=hma a ha
    cases a with
    |mk c vs b=>
     rw [S3] at hx
     rw [Al.size] at h1
     have:=Uu N b _ x (by omega) hx
     omega
theorem R6:∀(l:List FE) (q r:Nat),l.foldlM Lx q=some r→∀f∈l,f.body.size≤q∧f.params.length≤6∧∀sc x,x∈B7 f.body sc→NB x.1
 |[],q,r,_,f,hf=>by simp at hf
 |g::l,q,r,h,f,hf=>by
  rw [List.foldlM_cons,AN,AB] at h
  obtain ⟨b,hb,h⟩:=h
  unfold Lx at hb
  split at hb
  · rename_i hh
    obtain ⟨h1,h2,h3⟩:=PB _ _ _ _ hb
    rcases Bf.1 hf with rfl|hf
    · simp only [g8,AQ,decide_eq_true_eq] at hh
      exact ⟨by omega,hh.1.2,h3⟩
    · have:=R6 l b r h f hf
      exact ⟨by omega,this.2⟩
  · cases hb
theorem Kt {p:Pg} (h:EJ p=true):p.MW.length≤24∧∀f∈p.MW,f.body.size≤600∧f.params.length≤6∧∀sc x,x∈B7 f.body sc→YR x.1:=by
 simp only [EJ,AQ,decide_eq_true_eq] at h
 obtain ⟨⟨⟨_,h1⟩,_⟩,h2⟩:=h
 obtain ⟨r,hr⟩:=TR.1 h2
 refine ⟨h1,fun f hf=>?_⟩
 obtain ⟨g1,g2,g3⟩:=R6 _ _ _ hr f hf
 exact ⟨g1,g2,fun sc x hx=>(g3 sc x hx).nD (by have:=Uu _ _ _ _ (A0 _) hx;omega)⟩
theorem VX (vis:Ex→List Str→Int):∀l:List (Ex×List Str),Gl (fun (_:Unit) x=>(vis x.1 x.2,())) l ()=(EH vis l,())
 |[]=>rfl
 |x::l=>by
  rw [Gl,EH,VX vis l]
  split<;>rfl
end Go.Ab
namespace Go.Ab
open Go.Proofs
theorem LY {p:Pg} {dt:List Dat} (hv:MU p= .ok dt):EJ p=true∧DJ [] p.data= .ok dt:=by
 unfold MU at hv
 split at hv
 · rename_i h
   split at hv
   · cases hv
   · rename_i l hl;cases hv;exact ⟨h,hl⟩
 · cases hv
theorem YF {ds:List (Str×Nat)} {vars:List Str}:∀ {l:List CE} {used:List Str} {e:Int},Ep ds vars used l= .error e→e≠0
 |[],used,e,h=>by cases h
 |c::l,used,e,h=>by
  rw [Ep] at h
  split at h
  · cases h;decide
  · cases ha:Dm ds vars c.args with
    |error e'=>rw [ha] at h;cases h;exact Xy ha
    |ok ts=>
     rw [ha] at h
     cases hl:Ep ds vars (used++[c.name]) l with
     |error e'=>rw [hl] at h;cases h;exact YF hl
     |ok us=>rw [hl] at h;cases h
theorem gS {ds:List (Str×Nat)} {used:List Str} {d:DE} {e:Int} (h:Nd ds used d= .error e):e≠0:=by
 unfold Nd at h
 split at h
 · cases h;decide
 · cases hl:Ep (ds++[(d.name,d.vars.length)]) d.vars used d.cons with
   |error e'=>rw [hl] at h;cases h;exact YF hl
   |ok us=>rw [hl] at h;cases h
theorem YH:∀ {l done:List DE} {e:Int} {i:Nat},DJ done l= .error (e,i)→e≠0
 |[],done,e,i,h=>by cases h
 |d::l,done,e,i,h=>by
  rw [DJ] at h
  cases hd:Nd (Cq done) (I3 done) d with
  |error e'=>rw [hd] at h;cases h;exact gS hd
  |ok x=>
   rw [hd] at h
   cases hl:DJ (done++[d]) l with
   |error e'=>rw [hl] at h;cases h;exact YH hl
   |ok us=>rw [hl] at h;cases h
theorem R0 {p:Pg} {c a b:Int} (h:MU p= .error (c,a,b)):c≠0:=by
 unfold MU at h
 split at h
 · cases hl:DJ [] p.data with
   |error x=>obtain ⟨e,i⟩:=x;rw [hl] at h;cases h;exact YH hl
   |ok us=>rw [hl] at h;cases h
 · cases h;decide
theorem c4 (ds:List DE) (fs:List FE) (dt:List Dat) (hdt:QS dt) (f:FE) (hsz:f.body.size≤600) (hg:∀sc x,x∈B7 f.body sc→YR x.1) (σ:AF):
 AM Tryz.prog 30 [feA f,.fn 46 [.agg [.d (.sl (ds.map DE.enc)),.d (.sl (fs.map FE.enc)),.d (.sl (dt.map Dat.enc))]] []] σ
  (fun v σ'=>v=(match EH (EX fs dt) (B7 f.body f.params) with
    |none=>.tup [.d (.int .i64 ((f.body.size - 1:Nat):Int)),.d (.int .i64 0)]
    |some (k,c)=>.tup [.d (.int .i64 (k:Nat)),.d (.int .i64 c)])∧σ'=σ):=by
 refine (Ve (S:=Unit) (fun _ x=>(EX fs dt x.1 x.2,())) (fun _=>σ) 46 [.agg [.d (.sl (ds.map DE.enc)),.d (.sl (fs.map FE.enc)),.d (.sl (dt.map Dat.enc))]] [] (by kernel_rfl) rfl rfl f () (by omega) (fun _ _ h=>h) (fun j hj x hx s n=>?_)).mono (fun v σ' h=>?_)
 · have:=jR ds fs dt hdt x.1 x.2 (hg _ _ hx) (WH (fun _=>σ) j (.fn 46 [.agg [.d (.sl (ds.map DE.enc)),.d (.sl (fs.map FE.enc)),.d (.sl (dt.map Dat.enc))]] []) n s)
   exact this
 · rw [VX] at h
   split at h
   · rename_i hh;simp only [B6] at hh;rw [hh.1];exact h
   · rename_i hh;simp only [B6] at hh;rw [hh.1];exact h
theorem R4 {vis:Ex→List Str→Int} {l:List (Ex×List Str)} {q:Nat} {c:Int} (h:EH vis l=some (q,c)):c≠0:=
 UB l () () (q,c) (by rw [VX,h])
theorem MS (fs:List FE) (dt:List Dat) (m:List FE):∀(l:List FE) (i:Nat),(∀k f,l[k]?=some f→RX fs dt (i+k) f=none)→GK fs dt i (l++m)=GK fs dt (i+l.length) m
 |[],i,_=>rfl
 |f::l,i,h=>by
  have h0:=h 0 f rfl
  rw [Dx] at h0
  rw [Ad,GK,h0]
  simp only
  rw [MS fs dt m l (i+1) (fun k g hg=>by have:=h (k+1) g (by simpa using hg);rwa [show i+(k+1)=i+1+k by omega] at this)]
  congr 1
  simp;omega
theorem X3 {s:Str}:∀ {l:List Str} {i:Nat},l[i]?=some s→∃k,Ct l s=some k∧k≤i
 |[],i,h=>by simp at h
 |x::l,i,h=>by
  rw [Ct]
  split
  · exact ⟨0,rfl,by omega⟩
  · rename_i hne
    cases i with
    |zero=>simp at h;simp [h] at hne
    |succ i=>
     obtain ⟨k,h1,h2⟩:=X3 (l:=l) (i:=i) (by simpa using h)
     exact ⟨k+1,by rw [h1];rfl,by omega⟩
theorem Ou (p:Pg) (σ:AF) (h:∀d∈p.data,Gd d):AM Tryz.prog 18 [pgA p] σ (fun v σ'=>v=dgA (My p)∧σ'=σ):=by
 have hdat:=W3 p σ h
 refine WD (by simp) ?_
 rw [Bg]
 unfold My
 cases hdp:MU p with
 |error d=>
  rw [hdp] at hdat
  obtain ⟨c,a,b⟩:=d
  obtain ⟨ds,fs⟩:=p
  simp only [pgA,Pg.enc,AI,AO,OV,dgA,dsA] at hdat ⊢
  have hne:(c != 0)=true:=by simpa using R0 hdp
  (repeat' (first|refine Run.ct rfl ?_|((first|refine Run.reg mixed ?_|refine Run.AD ?_|refine Run.Fu Fk (AF.le_refl _) ?_|refine AJ.det (hdat) ?_)<;>try simp -implicitDefEqProofs only [hne,go_sem])|fail))
 |ok dt=>
 rw [hdp] at hdat
 obtain ⟨hval,hgo⟩:=LY hdp
 obtain ⟨hfl,hgood⟩:=Kt hval
 obtain ⟨ds,fs⟩:=p
 have hfun:=fun s=>O0 ⟨ds,fs⟩ s σ
 simp only [pgA,Pg.enc,AI,AO,OV,dgA,dsA] at hdat hfun hfl hgood ⊢
 have h00:((0:Int) != 0)=false:=by decide
 (repeat' (first|refine Run.ct rfl ?_|((first|refine Run.reg mixed ?_|refine Run.AD ?_|refine AJ.det (hdat) ?_)<;>try simp -implicitDefEqProofs only [h00,AA,go_sem])|fail))
 have hdt:QS dt:=(HY hgo).2.2.2.2 1000000 (fun d hd=>by have:=((Me hval h).2 d hd).1;omega)
 have hrep:=fun l=>L5 l σ
 have hbody:=fun f hf=>c4 ds fs dt hdt f (hgood f hf).1 (hgood f hf).2.2 σ
 refine Run.BD ?_
 refine Run.BG ((fun (a1:AV) (a2:AV) (a5:AV) (a23:AV) (a24:AV)=>fun (i:Nat)=>put 1 a1 (put 2 a2 (put 5 a5 (put 23 a23 (put 24 a24 (put 25 (.d (.int .i64 i)) U)))))) _ _ _ _ _) (fun _=>BE 1 [.d (.sl (ds.map DE.enc)),.d (.sl (fs.map FE.enc))] (BE 2 [.d (.int .i64 0),.d (.int .i64 0),.d (.int .i64 0)] (BE 5 [.d (.sl (ds.map DE.enc)),.d (.sl (fs.map FE.enc)),.d (.sl (dt.map Dat.enc))] E))) (fun _=>σ)
  (fun i=>i≤fs.length∧∀k f,fs[k]?=some f→k < i→RX fs dt k f=none) (fun i=>fs.length - i) ?_ 0 ⟨by simp,fun k f _ hk=>by omega⟩
 rintro i ⟨hi,hno⟩ ih
 by_cases hlt:i < fs.length
 · obtain ⟨f,hf⟩:=BC hlt
   have he:=Ay (enc:=FE.enc) hf
   have hw1:=A6 (show i+1≤9000000000000000000 by omega)
   have hgo2:GK fs dt 0 fs=GK fs dt i (f::fs.drop (i+1)):=by
    conv=>lhs;rw [show GK fs dt 0 fs=GK fs dt 0 (fs.take i++fs.drop i) by rw [A4],Bb hf]
    rw [MS fs dt _ _ 0 (fun k g hg=>?_),Ak,Aj,CO hi]
    rw [Ak]
    rw [BN] at hg
    split at hg
    · exact hno k g hg (by assumption)
    · cases hg
   rw [GK] at hgo2
   have hfn:=hfun f.name
   have hrp:=hrep f.params
   have hbd:=hbody f (AT hf)
   obtain ⟨k,hk,hki⟩:=X3 (l:=CU fs) (s:=f.name) (i:=i) (by rw [CU,Ah,hf];rfl)
   rw [hk] at hfn
   simp only [Ee] at hfn
   have hF:RX fs dt i f=if k < i∨CC f.params=true then some (4,(i:Int),0) else match EH (EX fs dt) (B7 f.body f.params) with
    |some (k,c)=>some (c,(i:Int),(k:Int))
    |none=>none:=by
    unfold RX
    rw [hk]
    have:(some k≠some i∨CC f.params=true)↔(k < i∨CC f.params=true):=by
     simp only [ne_eq,AK]
     constructor
     · rintro (h|h)
       · exact .inl (by omega)
       · exact .inr h
     · rintro (h|h)
       · exact .inl (by omega)
       · exact .inr h
    simp only [this]
    split
    · rfl
    · cases EH (EX fs dt) (B7 f.body f.params)<;>rfl
   rw [hF] at hgo2
   have hnx:RX fs dt i f=none→∀k g,fs[k]?=some g→k < i+1→RX fs dt k g=none:=fun h0 k g hg hk=>by
    rcases Br k i with h|h
    · exact hno k g hg h
    · have:k=i:=by omega
      subst this
      rw [hf] at hg;cases hg;exact h0
   rw [hF] at hnx
   clear hF
   obtain ⟨nm,ps,o,n,u,ns,ks,al⟩:=f
   simp only [FE.enc,Ex.A7,feA,AI,AO] at he hfn hrp hbd hgo2 hnx
   by_cases hki2:k < i
   · have hd:decide ((k:Int) < (i:Int))=true:=by simpa using hki2
     rw [if_pos (.inl hki2)] at hgo2
     simp only at hgo2
     rw [hgo2]
     (repeat' (first|refine Run.ct rfl ?_|((first|refine Run.reg mixed ?_|refine Run.AD ?_|refine Run.Fu Fk (AF.le_refl _) ?_|refine AJ.det (hfn) ?_)<;>try simp -implicitDefEqProofs only [A8 hlt,he,hd,go_sem])|fail))
   have hd:decide ((k:Int) < (i:Int))=false:=by simpa using hki2
   cases htw:CC ps with
   |true=>
    rw [htw] at hgo2 hrp
    rw [if_pos (.inr rfl)] at hgo2
    simp only at hgo2
    rw [hgo2]
    (repeat' (first|refine Run.ct rfl ?_|((first|refine Run.reg mixed ?_|refine Run.AD ?_|refine Run.Fu Fk (AF.le_refl _) ?_|refine AJ.det (hfn) ?_|refine AJ.det (hrp) ?_)<;>try simp -implicitDefEqProofs only [A8 hlt,he,hd,go_sem])|fail))
   |false=>
   rw [htw] at hgo2 hrp hnx
   rw [if_neg (by simp;omega)] at hgo2 hnx
   cases her:EH (EX fs dt) (B7 (.mk o n u ns ks al) ps) with
   |some y=>
    obtain ⟨q,c⟩:=y
    rw [her] at hgo2 hbd
    simp only at hgo2 hbd
    rw [hgo2]
    have hcn:(c != 0)=true:=by simpa using R4 her
    (repeat' (first|refine Run.ct rfl ?_|((first|refine Run.reg mixed ?_|refine Run.AD ?_|refine Run.Fu Fk (AF.le_refl _) ?_|refine AJ.det (hfn) ?_|refine AJ.det (hrp) ?_|refine AJ.det (hbd) ?_)<;>try simp -implicitDefEqProofs only [A8 hlt,he,hd,hcn,go_sem])|fail))
   |none=>
    rw [her] at hbd hnx
    simp only at hbd hnx
    (repeat' (first|refine Run.ct rfl ?_|((first|refine Run.reg mixed ?_|refine Run.AD ?_|refine AJ.det (hfn) ?_|refine AJ.det (hrp) ?_|refine AJ.det (hbd) ?_)<;>try simp -implicitDefEqProofs only [A8 hlt,he,hd,h00,hw1,go_sem])|fail))
    exact ih (i+1) ⟨by omega,hnx trivial⟩ (by omega)
 · have hall:GK fs dt 0 fs=(0,0,0):=by
    have:=MS fs dt [] fs 0 (fun k g hg=>by rw [Ak];exact hno k g hg (by have:=(AR.1 hg).1;omega))
    rw [Aq] at this
    rw [this];rfl
   rw [hall]
   (repeat' (first|refine Run.ct rfl ?_|((first|refine Run.reg mixed ?_|refine Run.AD ?_|refine Run.Fu Fk (AF.le_refl _) ?_)<;>try simp -implicitDefEqProofs only [Bd hlt,go_sem])|fail))
end Go.Ab
