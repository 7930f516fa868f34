/- Scope: a declaration resolved. Scope: the declarations resolved. Scope: Data. Scope: what a valid program promises. Scope: Check. Conditions: none. -/
import Derived.Test.YtlckhmkeihbhmaaGreatXVi
set_option linter.unusedSimpArgs false
set_option linter.unusedVariables false
set_option maxRecDepth 4000
set_option maxHeartbeats 8000000
open List renaming map_cons→AH,map_nil→AM,length_map→AA,eq_nil_of_length_eq_zero→BE,take_append_drop→A4,length_drop→BZ,drop_drop→ED,nil_append→Au,append_nil→At,cons_append→Ac,append_assoc→Ah,flatMap_cons→MD,mem_cons→BW,mem_cons_self→Ai,mem_cons_of_mem→Ao,all_eq_true→Aj,length_take→Ae,mem_of_mem_take→Bi,mem_of_getElem?→AS,take_of_length_le→AG,foldlM_cons→E4,mem_append→A6,getElem?_take→BM,getElem?_map→Ad,getElem?_eq_some_iff→AR
open Option renaming isSome_some→Br,isSome_none→CD,bind_eq_bind→AL,bind_eq_some_iff→AB,isSome_iff_exists→Gi
open Bool renaming true_or→J8,false_or→DW,false_eq_true→AZ,and_eq_true→AN
open Except renaming map→CU
open Nat renaming min_eq_left→CT,le_trans→BY,le_refl→A0,add_zero→D5,zero_add→An,lt_or_ge→Bt
open Prod.mk renaming injEq→B1
open Option.some renaming injEq→AJ
namespace Go.Ab
open Go.Proofs
def rQ (σ0:AF) (jr:Nat) (dl:List Dat) (nm:Str) (vs:List Str) (cs:List CE) (x1 x2 x3:AV) (F':Fm) (L':Lm) (σ':AF):Prop:=
 ∃jd cells,M4 [0,3] F'=put 0 (.gp jr 0) (put 3 (.lp 3 0) U)∧I6 [0,3] L'=BA 3 [.d (.str nm),.d (.sl (vs.map Ak)),.d (.sl (cs.map CE.enc))] E∧APS σ0 jr dl nm vs.length .AU x1 x2 x3 jd cells σ'
theorem APS.st {σ0 τ:AF} {jr:Nat} {dl:List Dat} {nm:Str} {k:Int} {cv x1 x2 x3:AV} {jd:Nat} {cs:List AV} (h:APS σ0 jr dl nm k cv x1 x2 x3 jd cs τ) (hjr:σ0.blk jr=none) (y1 y2 y3:AV):
 APS σ0 jr dl nm k cv y1 y2 y3 jd cs (τ.AQ jr [.ms jd (dl.length+1) 3 eD,y1,y2,y3]):=
 ⟨by rw [AP,if_pos rfl],h.nb,h.ne,by rw [AP,if_neg h.ne];exact h.row,h.ok,Dc h.le hjr⟩
theorem bV (σ0:AF) (jr:Nat) (dl:List Dat) (hdl:dl.length≤1000) (hnn:∀d∈dl,0≤d.vars) (hdt:RJ dl) (nm:Str) (vs:List Str) (cs:List CE) (hcs:cs.length≤1000) (hsm:∀c∈cs,P5 c∧c.args.length≤1000)
 (τ:AF) (dv x1 x2 x3:AV) (hb:τ.blk jr=some [dv,x1,x2,x3]) (hx:x1.BV=true∧x2.BV=true∧x3.BV=true) (hv:DlX σ0 jr τ dl dv) (hle:σ0.le τ) (hjr:σ0.blk jr=none):
 AK Tryz.prog 72 [.gp jr 0,deA ⟨nm,vs,cs⟩] τ (DQ σ0 jr dl (Nl (E6 dl) (HF dl) ⟨nm,vs,cs⟩)):=by
 refine Lo (by simp [deA]) ?_
 rw [BR]
 simp only [DE.enc,deA,AH,AM]
 have hfi:=eP dl dv [x1,x2,x3] jr nm τ (by omega) hb hv.dls
 have hrep:=La vs τ
 have hap:=fun K=>ZR σ0 jr dl hdl nm vs cs τ dv x1 x2 x3 hb hx hv hle hjr K
 have hds:(E6 dl).map (·.1)=Ic dl:=VA dl
 unfold Nl
 simp only [hds]
 have hin:(Cd (Ic dl) nm).isSome=(Ic dl).contains nm:=G1 _ _
 cases hc:Cd (Ic dl) nm with
 |some i=>
  rw [hc] at hin hfi
  simp only [Br] at hin
  have hge:decide ((0:Int)≤(i:Int))=true:=by simp
  rw [← hin]
  simp only [J8,if_true]
  simp only [Ee] at hfi
  (repeat' (first|refine Run.ct rfl ?_|((first|refine Run.reg mixed ?_|refine Run.AD ?_|refine Run.Er CH (AF.le_refl _) ?_|refine AI.det (hfi) ?_)<;>try simp -implicitDefEqProofs only [hge,go_sem])|fail))
  exact ⟨rfl,by decide,hle⟩
 |none=>
 rw [hc] at hin hfi
 simp only [CD] at hin
 rw [← hin]
 simp only [Ee] at hfi
 have hge:decide ((0:Int)≤-1)=false:=by decide
 cases ht:Bo vs with
 |true=>
  rw [ht] at hrep
  simp only [DW,if_true]
  (repeat' (first|refine Run.ct rfl ?_|((first|refine Run.reg mixed ?_|refine Run.AD ?_|refine Run.Er CH (AF.le_refl _) ?_|refine AI.det (hfi) ?_|refine AI.det (hrep) ?_)<;>try simp -implicitDefEqProofs only [hge,go_sem])|fail))
  exact ⟨rfl,by decide,hle⟩
 |false=>
 rw [ht] at hrep
 simp only [DW,AZ,if_false]
 (repeat' (first|refine Run.ct rfl ?_|((first|refine Run.reg mixed ?_|refine Run.AD ?_|refine AI.det (hfi) ?_|refine AI.det (hrep) ?_)<;>try simp -implicitDefEqProofs only [hge,go_sem])|fail))
 refine Run.fC mixed (rQ σ0 jr dl nm vs cs x1 x2 x3) (hap _ (fun F' L' σ' jd cells h1 h2 h3=>⟨jd,cells,h1,h2,h3⟩)) ?_
 rintro F' L' σ' ⟨jd,cells,h1,h2,h3⟩
 rw [h1,h2]
 have hres:=h3.res
 have h4:=h3.st hjr (.d (.str nm)) (.d (.sl (vs.map Ak))) (.d (.sl (cs.map CE.enc)))
 have hres4:=h4.res
 have hw:IntKind.i64.wrap (((dl.length+1:Nat):Int) - 1)=(dl.length:Int):=by
  exact Ir (by omega)
 (repeat' (first|refine Run.ct rfl ?_|((first|refine Run.reg mixed ?_|refine Run.AD ?_)<;>try simp -implicitDefEqProofs only [hres,hres4,hw,AA,go_sem])|fail))
 exact bU σ0 jr dl hdl hnn hdt nm vs cs hcs hsm _ jd cells hjr h4
end Go.Ab
namespace Go.Ab
open Go.Proofs
theorem Hj.enc:∀ {dl:List Dat} {cs:List AV},Hj cs dl→∃ds,dvs cs=some ds∧chunk 3 dl.length ds=dl.map Dat.enc
 |[],cs,h=>by
  have:cs=[]:=BE (by simpa using h.1)
  subst this
  exact ⟨[],rfl,rfl⟩
 |d::dl,cs,h=>by
  obtain ⟨cv,h1,h2⟩:=h.2 0 d rfl
  simp only [Nat.zero_mul,List.drop_zero] at h1
  have hcs:cs= .d (.str d.name)::.d (.int .i64 d.vars)::cv::cs.drop 3:=by
   conv=>lhs;rw [← A4 3 cs,h1]
   rfl
  have ht:Hj (cs.drop 3) dl:=by
   refine ⟨by rw [BZ,h.1];simp;omega,fun i x hx=>?_⟩
   obtain ⟨cv',h3,h4⟩:=h.2 (i+1) x hx
   refine ⟨cv',?_,h4⟩
   rw [ED,← h3]
   congr 2
   omega
  obtain ⟨ds,h5,h6⟩:=Hj.enc ht
  refine ⟨.str d.name::.int .i64 d.vars::.sl (d.cons.map Con.enc)::ds,?_,?_⟩
  · rw [hcs]
    have hcv:=h2.dv
    have e1:(AV.d (.str d.name)).dv=some (.str d.name):=rfl
    have e2:(AV.d (.int .i64 d.vars)).dv=some (.int .i64 d.vars):=rfl
    simp [dvs,hcv,h5,e1,e2]
  · simp [chunk,h6,Dat.enc]
def dgA (d:Dg):AV:= .agg [.d (.int .i64 d.1),.d (.int .i64 d.2.1),.d (.int .i64 d.2.2)]
def TT:Except Dg (List Dat)→AV
 | .ok dt=>.tup [dsA dt,dgA (0,0,0)]
 | .error d=>.tup [dsA [],dgA d]
theorem ZQ {ds:List (Str×Nat)} {used:List Str} {d:DE} {x:Dat} (h:Nl ds used d= .ok x):x.name=d.name∧x.vars=d.vars.length∧x.cons.map (·.name)=d.cons.map (·.name):=by
 unfold Nl at h
 split at h
 · cases h
 · cases hc:Eo (ds++[(d.name,d.vars.length)]) d.vars used d.cons with
   |error e=>rw [hc] at h;cases h
   |ok us=>
    rw [hc] at h
    cases h
    exact ⟨rfl,rfl,(K0 _ _ [] hc).2⟩
theorem MV (m:List DE):∀ {l done:List DE} {xs:List Dat},DN done l= .ok xs→DN done (l++m)=(DN (done++l) m).map (xs++·)
 |[],done,xs,h=>by
  cases h
  simp only [Au,At]
  cases DN done m<;>rfl
 |d::l,done,xs,h=>by
  rw [DN] at h
  rw [Ac,DN]
  cases hd:Nl (Ct done) (I8 done) d with
  |error e=>rw [hd] at h;cases h
  |ok x=>
   rw [hd] at h
   simp only at h ⊢
   cases hl:DN (done++[d]) l with
   |error e=>rw [hl] at h;cases h
   |ok ys=>
    rw [hl] at h
    cases h
    rw [MV m hl,Ah]
    simp only [Ac,Au]
    cases DN (done++d::l) m<;>rfl
theorem JM:∀ {l done:List DE} {xs:List Dat},DN done l= .ok xs→E6 xs=Ct l∧HF xs=I8 l∧xs.length=l.length∧(∀x∈xs,0≤x.vars)∧(∀n,(∀d∈l,d.cons.length≤n)→∀x∈xs,x.cons.length≤n)
 |[],done,xs,h=>by cases h;simp [E6,Ct,HF,I8]
 |d::l,done,xs,h=>by
  rw [DN] at h
  cases hd:Nl (Ct done) (I8 done) d with
  |error e=>rw [hd] at h;cases h
  |ok x=>
   rw [hd] at h
   simp only at h
   cases hl:DN (done++[d]) l with
   |error e=>rw [hl] at h;cases h
   |ok ys=>
    rw [hl] at h
    cases h
    obtain ⟨f1,f2,f3⟩:=ZQ hd
    obtain ⟨g1,g2,g3,g4,g5⟩:=JM hl
    have f4:x.cons.length=d.cons.length:=by simpa using congrArg List.length f3
    refine ⟨?_,?_,by simp [g3],?_,?_⟩
    · simp [E6,Ct,f1,f2] at g1 ⊢;exact g1
    · simp only [HF,I8,MD,f3] at g2 ⊢;rw [g2]
    · intro y hy
      rcases BW.1 hy with rfl|hy
      · rw [f2];omega
      · exact g4 y hy
    · intro n hn y hy
      rcases BW.1 hy with rfl|hy
      · rw [f4];exact hn d (Ai ..)
      · exact g5 n (fun z hz=>hn z (Ao _ hz)) y hy
end Go.Ab
namespace Go.Ab
open Go.Proofs
theorem P6 {p:Pg} (hv:Cu p=true) (h:∀d∈p.data,HT d):p.data.length≤12∧∀d∈p.data,d.cons.length≤1000∧∀c∈d.cons,P5 c∧c.args.length≤1000:=by
 simp only [Cu,AN,decide_eq_true_eq,Aj] at hv
 obtain ⟨⟨⟨h1,_⟩,h2⟩,_⟩:=hv
 refine ⟨h1,fun d hd=>?_⟩
 have:=h2 d hd
 simp only [L5,AN,decide_eq_true_eq,Aj] at this
 obtain ⟨⟨_,h3⟩,h4⟩:=this
 refine ⟨by omega,fun c hc=>⟨h d hd c hc,?_⟩⟩
 have:=h4 c hc
 simp only [Wd,AN,decide_eq_true_eq] at this
 omega
theorem k5 {σ τ:AF} (h:σ.le τ):σ.le { τ with blk:=fun j=>if (σ.blk j).isSome then τ.blk j else none}:=
 ⟨fun i cs hi=>by simp only [hi,Br,if_true];exact h.blk i cs hi,h.tok,h.gt,h.bt⟩
theorem XC (p:Pg) (σ:AF) (h:∀d∈p.data,HT d):AK Tryz.prog 44 [pgA p] σ (fun v σ'=>v=TT (Jz p)∧σ'=σ):=by
 have hval:=UI p σ h
 refine YN (by simp) ?_
 rw [Bf]
 unfold Jz
 cases hvb:Cu p with
 |false=>
  rw [hvb] at hval
  obtain ⟨ds,fs⟩:=p
  simp only [pgA,Pg.enc,AH,AM] at hval ⊢
  (repeat' (first|refine Run.ct rfl ?_|((first|refine Run.reg mixed ?_|refine Run.AD ?_|(refine Run.A1 Hs (σ2:=σ) (AF.le_refl _) ?_)|refine AI.det (hval) ?_)<;>try simp -implicitDefEqProofs only [go_sem])|fail))
  rfl
 |true=>
 rw [hvb] at hval
 obtain ⟨hpl,hps⟩:=P6 hvb h
 obtain ⟨ds,fs⟩:=p
 simp only [pgA,Pg.enc,AH,AM] at hval hpl hps ⊢
 (repeat' (first|refine Run.ct rfl ?_|((first|refine Run.reg mixed ?_|refine Run.AD ?_|refine AI.det (hval) ?_)<;>try simp -implicitDefEqProofs only [AA,go_sem])|fail))
 intro jr hj
 generalize hQ:(fun (v:AV) (σ':AF)=>v=TT (match DN [] ds with| .error (e,i)=>.error (e,-1,(i:Int))| .ok l=>.ok l)∧σ'=σ)=Q
 have herr:∀(e:Int) (i:Nat),DN [] ds= .error (e,i)→Q (.tup [.d (.sl []),.agg [.d (.int .i64 e),.d (.int .i64 (-1)),.d (.int .i64 i)]]) σ:=fun e i hd=>by
  rw [← hQ,hd];exact ⟨rfl,rfl⟩
 have hok:∀(l:List Dat),DN [] ds= .ok l→Q (.tup [dsA l,.agg [.d (.int .i64 0),.d (.int .i64 0),.d (.int .i64 0)]]) σ:=fun l hd=>by
  rw [← hQ,hd];exact ⟨rfl,rfl⟩
 clear hQ
 have hle0:=Bp (cs:=[AV.AU,.d (.str []),.AU,.AU]) hj
 (repeat' (first|refine Run.ct rfl ?_|((first|refine Run.reg mixed ?_|refine Run.AD ?_)<;>try simp -implicitDefEqProofs only [AA,go_sem])|fail))
 refine Run.Ay ?_
 refine Run.BB ((fun (a3:AV) (a4:AV) (a15:AV) (a16:AV)=>fun (y:Nat×List Dat×AF)=>put 3 a3 (put 4 a4 (put 15 a15 (put 16 a16 (put 17 (.d (.int .i64 y.1)) U))))) _ _ _ _) (fun _=>BA 3 [.d (.int .i64 0),.d (.int .i64 0),.d (.int .i64 0)] E) (fun y=>y.2.2)
  (fun y=>y.1≤ds.length∧DN [] (ds.take y.1)= .ok y.2.1∧∃dv y1 y2 y3,y.2.2.blk jr=some [dv,y1,y2,y3]∧(y1.BV=true∧y2.BV=true∧y3.BV=true)∧DlX σ jr y.2.2 y.2.1 dv∧σ.le y.2.2)
  (fun y=>ds.length - y.1) ?_ (0,[],_) ⟨by simp,rfl,.AU,.d (.str []),.AU,.AU,by simp only [AP,if_true],⟨rfl,rfl,rfl⟩,.inl ⟨rfl,rfl⟩,hle0⟩
 rintro ⟨i,dl,τ⟩ ⟨hi,hgo,dv,y1,y2,y3,hb,hx,hv,hle⟩ ih
 simp only at hi hgo hb hv hle
 obtain ⟨f1,f2,f3,f4,f5⟩:=JM hgo
 have hlen:dl.length=i:=by rw [f3,Ae];omega
 by_cases hlt:i < ds.length
 · obtain ⟨d,hd⟩:=Aw hlt
   have he:=Aq (enc:=DE.enc) hd
   have hw1:=A7 (show i+1≤9000000000000000000 by omega)
   have hdt:RJ dl:=f5 1000000 (fun d hd=>by have:=(hps d (Bi hd)).1;omega)
   obtain ⟨hc1,hc2⟩:=hps d (AS hd)
   obtain ⟨nm,vs,cs⟩:=d
   have hc:=bV σ jr dl (by omega) f4 hdt nm vs cs hc1 hc2 τ dv y1 y2 y3 hb hx hv hle hj
   have hall:DN [] ds=(DN (ds.take i) (⟨nm,vs,cs⟩::ds.drop (i+1))).map (dl++·):=by
    conv=>lhs;rw [← A4 i ds,Bc hd]
    exact MV _ hgo
   have hsn:DN [] (ds.take (i+1))=(DN (ds.take i) [⟨nm,vs,cs⟩]).map (dl++·):=by
    rw [Am hd];exact MV _ hgo
   rw [DN,← f1,← f2] at hall hsn
   simp only [DE.enc,deA,AH,AM] at he hc
   cases hr:Nl (E6 dl) (HF dl) ⟨nm,vs,cs⟩ with
   |error e=>
    rw [hr] at hc hall
    simp only [CU,Ae,CT hi] at hall
    have hc':=AK.mono hc (Q':=fun v σ'=>v= .d (.int .i64 e)∧e≠0∧σ.le σ') (fun v σ' h=>h)
    (repeat' (first|refine Run.ct rfl ?_|((first|refine Run.reg mixed ?_|refine Run.AD ?_|(refine AI.mk rfl hc' ?_;rintro _ τ' ⟨rfl,hne,hle'⟩))<;>try simp -implicitDefEqProofs only [A8 hlt,he,go_sem])|(refine ⟨fun h=>?_,fun h=>?_⟩<;>first|(cases h;done)|try simp only [h])|fail))
    case refine_2=>exact absurd ‹(e != 0)=false› (by simp [hne])
    (repeat' (first|refine Run.ct rfl ?_|((first|refine Run.reg mixed ?_|refine Run.AD ?_|(refine Run.A1 Hs (σ2:=σ) hle' ?_))<;>try simp -implicitDefEqProofs only [go_sem])|fail))
    exact herr e i hall
   |ok x=>
    rw [hr] at hc hsn
    simp only [DN,CU] at hsn
    have hc':=AK.mono hc (Q':=fun v σ'=>v= .d (.int .i64 0)∧σ.le σ'∧∃dv y1 y2 y3,σ'.blk jr=some [dv,y1,y2,y3]∧(y1.BV=true∧y2.BV=true∧y3.BV=true)∧DlX σ jr σ' (dl++[x]) dv) (fun v σ' h=>h)
    have h00:((0:Int) != 0)=false:=by decide
    (repeat' (first|refine Run.ct rfl ?_|((first|refine Run.reg mixed ?_|refine Run.AD ?_|(refine AI.mk rfl hc' ?_;rintro _ τ' ⟨rfl,hle',dv',z1,z2,z3,hb',hx',hv'⟩))<;>try simp -implicitDefEqProofs only [A8 hlt,he,hw1,go_sem])|(refine ⟨fun h=>?_,fun h=>?_⟩<;>first|(cases h;done)|try simp only [h])|fail))
    (repeat' (first|refine Run.ct rfl ?_|((first|refine Run.reg mixed ?_|refine Run.AD ?_)<;>try simp -implicitDefEqProofs only [h00,hw1,go_sem])|fail))
    exact ih (i+1,dl++[x],τ') ⟨by simp only;omega,hsn,dv',z1,z2,z3,hb',hx',hv',hle'⟩ (by simp only;omega)
 · rw [AG (by omega)] at hgo
   have hfin:=hok dl hgo
   rcases hv with ⟨rfl,rfl⟩|⟨jd,cells,rfl,hn,hne,hbd,hrows⟩
   · (repeat' (first|refine Run.ct rfl ?_|((first|refine Run.reg mixed ?_|refine Run.AD ?_|(refine Run.A1 Hs (σ2:=σ) hle ?_))<;>try simp -implicitDefEqProofs only [B8 hlt,hb,go_sem])|fail))
     exact hfin
   · obtain ⟨dvl,hdv,hch⟩:=hrows.enc
     (repeat' (first|refine Run.ct rfl ?_|((first|refine Run.reg mixed ?_|refine Run.AD ?_)<;>try simp -implicitDefEqProofs only [B8 hlt,hb,go_sem])|fail))
     refine Run.freeze (F':=put 2 (dsA dl) (put 3 (.lp 3 0) U)) (σ':= { τ with blk:=fun j=>if (σ.blk j).isSome then τ.blk j else none}) hbd hdv hrows.1 (BY (show dl.length≤12 by omega) (by decide)) (fun s=>?_) (fun k cs' hk=>⟨cs',hk,.inl rfl⟩) (fun j cs' hj'=>?_) (fun _ h=>h) ?_
     · by_cases h2:s=2
       · subst h2
         right
         simp only [CZ,if_true,frz,and_self,dsA,hch]
       · left
         simp only [CZ,if_neg h2]
     · simp only at hj'
       cases hs:σ.blk j with
       |none=>rw [hs] at hj';cases hj'
       |some c=>
        rw [hs] at hj'
        exact ⟨(fun e=>by rw [e,hn] at hs;cases hs),cs',hj',.inl rfl⟩
     · refine Run.A1 Hs (σ2:=σ) (k5 hle) ?_
       simp -implicitDefEqProofs only [QZ,dsA,go_sem]
       exact hfin
end Go.Ab
namespace Go.Ab
open Go.Proofs
theorem cP {a:Nat}:∀ {l:List Nat},a∈l→a≤l.sum
 |x::l,h=>by
  rw [List.sum_cons]
  rcases BW.1 h with rfl|h
  · omega
  · have:=cP h;omega
def nb1 (e:Ex):Prop:=JZ e.op e.name e.num e.names e.kids.length e.alts=true
def NB (e:Ex):Prop:=nb1 e∧∀k∈e.kids,nb1 k
theorem MW {α:Type} {f:Nat→α→Option Nat} {sz:α→Nat} {Q:α→Prop}:∀(l:List α) (q r:Nat),(∀x∈l,∀a b,f a x=some b→sz x+b=a∧Q x)→l.foldlM f q=some r→(l.map sz).sum+r=q∧∀x∈l,Q x
 |[],q,r,_,h=>by simp at h;simp [h]
 |x::l,q,r,hf,h=>by
  rw [E4,AL,AB] at h
  obtain ⟨b,hb,h⟩:=h
  obtain ⟨h1,h2⟩:=hf x (Ai ..) q b hb
  obtain ⟨h3,h4⟩:=MW l b r (fun y hy=>hf y (Ao _ hy)) h
  refine ⟨by simp;omega,fun y hy=>?_⟩
  rcases BW.1 hy with rfl|hy
  · exact h2
  · exact h4 y hy
theorem Ex.Io:∀l:List Ex,Ex.A2 l=(l.map Ex.size).sum
 |[]=>rfl
 |x::l=>by simp [Ex.A2,Ex.Io l]
theorem Al.Io:∀l:List Al,Al.A2 l=(l.map Al.size).sum
 |[]=>rfl
 |x::l=>by simp [Al.A2,Al.Io l]
theorem Sd {o:Int} {n:Str} {ns sc:List Str} {x:Ex×List Str}:∀ {l:List Ex} {i:Nat},x∈B9 o n ns sc i l→∃k∈l,∃sc',x∈B7 k sc'
 |[],i,h=>by simp [B9] at h
 |k::l,i,h=>by
  rw [B9,A6] at h
  rcases h with h|h
  · exact ⟨k,Ai ..,_,h⟩
  · obtain ⟨k',h1,h2⟩:=Sd h
    exact ⟨k',Ao _ h1,h2⟩
theorem P1 {sc:List Str} {x:Ex×List Str}:∀ {l:List Al},x∈Bj sc l→∃a∈l,x∈Ot a sc
 |[],h=>by simp [Bj] at h
 |k::l,h=>by
  rw [Bj,A6] at h
  rcases h with h|h
  · exact ⟨k,Ai ..,h⟩
  · obtain ⟨k',h1,h2⟩:=P1 h
    exact ⟨k',Ao _ h1,h2⟩
theorem PK:∀(d q:Nat) (e:Ex) (r:Nat),vEx d q e=some r→e.size+r=q∧(nb1 e∧∀sc x,x∈B7 e sc→NB x.1)
 |0,q,e,r,h=>by simp [vEx] at h
 |d+1,0,.mk ..,r,h=>by cases h
 |d+1,q+1,.mk o n u ns ks al,r,h=>by
  simp only [vEx] at h
  split at h
  · rename_i hn
    rw [AB] at h
    obtain ⟨c,hc,h⟩:=h
    obtain ⟨h1,h2⟩:=MW (sz:=Ex.size) (Q:=fun e=>nb1 e∧∀sc x,x∈B7 e sc→NB x.1) ks q c (fun x _ a b hab=>PK d a x b hab) hc
    obtain ⟨h3,h4⟩:=MW (sz:=Al.size) (Q:=fun a=>∀sc x,x∈Ot a sc→NB x.1) al c r (fun x _ a b hab=>by
     cases x with
     |mk cc vs bd=>
      obtain ⟨g1,g2⟩:=PK d a _ b hab
      exact ⟨g1,fun sc x hx=>g2.2 _ x (by rw [Ot] at hx;exact hx)⟩) h
    have hnb:nb1 (.mk o n u ns ks al):=hn
    refine ⟨by rw [Ex.size,Ex.Io,Al.Io];omega,hnb,fun sc x hx=>?_⟩
    rw [B7,BW,A6] at hx
    rcases hx with rfl|hx|hx
    · exact ⟨hnb,fun k hk=>(h2 k hk).1⟩
    · obtain ⟨k,hk,sc',hx⟩:=Sd hx
      exact (h2 k hk).2 sc' x hx
    · obtain ⟨a,ha,hx⟩:=P1 hx
      exact h4 a ha _ x hx
  · simp at h
theorem Zf {s:Str} (h:Cv s=true):s≠[]:=by
 rintro rfl
 revert h;decide
theorem V7 {e:Ex} (h:nb1 e) (ho:e.op=4):e.name≠[]:=by
 unfold nb1 JZ nmB at h
 simp only [ho,AN,if_true] at h
 exact Zf h.1.1.1.1
theorem NB.qB {e:Ex} (h:NB e) (hs:e.size≤1000000):QW e:=by
 obtain ⟨h1,h2⟩:=h
 obtain ⟨o,n,u,ns,ks,al⟩:=e
 simp only [Ex.size] at hs
 have hkl:=Ex.CY ks
 have hal:=Al.CY al
 refine ⟨V7 h1,fun ho=>?_,by simp only [Ex.alts];omega,by simp only [Ex.kids];omega⟩
 simp only [Ex.op] at ho
 subst ho
 unfold nb1 JZ nkB at h1
 simp only [Ex.op,Ex.kids,AN] at h1
 have h3:=h1.2
 simp at h3
 cases ks with
 |nil=>simp at h3
 |cons k ks=>exact ⟨k,ks,rfl,fun hk=>V7 (h2 k (Ai ..)) hk⟩
theorem V2:∀(N:Nat) (e:Ex) (sc:List Str) (x:Ex×List Str),e.size≤N→x∈B7 e sc→x.1.size≤e.size
 |0,e,sc,x,h,_=>by have:=Ex.size_pos e;omega
 |N+1,.mk o n u ns ks al,sc,x,h,hx=>by
  rw [B7,BW,A6] at hx
  rw [Ex.size] at h ⊢
  have hmk:∀k∈ks,k.size≤Ex.A2 ks:=fun k hk=>by
   rw [Ex.Io];exact cP (List.mem_map_of_mem hk)
  have hma:∀k∈al,k.size≤Al.A2 al:=fun k hk=>by
   rw [Al.Io];exact cP (List.mem_map_of_mem hk)
  rcases hx with rfl|hx|hx
  · rw [Ex.size];omega
  · obtain ⟨k,hk,sc',hx⟩:=Sd hx
    have:=V2 N k sc' x (by have:=hmk k hk;omega) hx
    have:=hmk k hk
    omega
  · obtain ⟨a,ha,hx⟩:=P1 hx
    have h1:=hma a ha
    cases a with
    |mk c vs b=>
     rw [Ot] at hx
     rw [Al.size] at h1
     have:=V2 N b _ x (by omega) hx
     omega
theorem Rd:∀(l:List FE) (q r:Nat),l.foldlM KY q=some r→∀f∈l,f.body.size≤q∧f.params.length≤6∧∀sc x,x∈B7 f.body sc→NB x.1
 |[],q,r,_,f,hf=>by simp at hf
 |g::l,q,r,h,f,hf=>by
  rw [E4,AL,AB] at h
  obtain ⟨b,hb,h⟩:=h
  unfold KY at hb
  split at hb
  · rename_i hh
    obtain ⟨h1,h2,h3⟩:=PK _ _ _ _ hb
    rcases BW.1 hf with rfl|hf
    · simp only [X0,AN,decide_eq_true_eq] at hh
      exact ⟨by omega,hh.1.2,h3⟩
    · have:=Rd l b r h f hf
      exact ⟨by omega,this.2⟩
  · cases hb
theorem Iq {p:Pg} (h:Cu p=true):p.Hp.length≤24∧∀f∈p.Hp,f.body.size≤600∧f.params.length≤6∧∀sc x,x∈B7 f.body sc→QW x.1:=by
 simp only [Cu,AN,decide_eq_true_eq] at h
 obtain ⟨⟨⟨_,h1⟩,_⟩,h2⟩:=h
 obtain ⟨r,hr⟩:=Gi.1 h2
 refine ⟨h1,fun f hf=>?_⟩
 obtain ⟨g1,g2,g3⟩:=Rd _ _ _ hr f hf
 exact ⟨g1,g2,fun sc x hx=>(g3 sc x hx).qB (by have:=V2 _ _ _ _ (A0 _) hx;omega)⟩
theorem Vw (vis:Ex→List Str→Int):∀l:List (Ex×List Str),Gr (fun (_:Unit) x=>(vis x.1 x.2,())) l ()=(EB vis l,())
 |[]=>rfl
 |x::l=>by
  rw [Gr,EB,Vw vis l]
  split<;>rfl
end Go.Ab
namespace Go.Ab
open Go.Proofs
theorem JN {p:Pg} {dt:List Dat} (hv:Jz p= .ok dt):Cu p=true∧DN [] p.data= .ok dt:=by
 unfold Jz at hv
 split at hv
 · rename_i h
   split at hv
   · cases hv
   · rename_i l hl;cases hv;exact ⟨h,hl⟩
 · cases hv
theorem ZN {ds:List (Str×Nat)} {vars:List Str}:∀ {l:List CE} {used:List Str} {e:Int},Eo ds vars used l= .error e→e≠0
 |[],used,e,h=>by cases h
 |c::l,used,e,h=>by
  rw [Eo] at h
  split at h
  · cases h;decide
  · cases ha:Dw ds vars c.args with
    |error e'=>rw [ha] at h;cases h;exact ZB ha
    |ok ts=>
     rw [ha] at h
     cases hl:Eo ds vars (used++[c.name]) l with
     |error e'=>rw [hl] at h;cases h;exact ZN hl
     |ok us=>rw [hl] at h;cases h
theorem kH {ds:List (Str×Nat)} {used:List Str} {d:DE} {e:Int} (h:Nl ds used d= .error e):e≠0:=by
 unfold Nl at h
 split at h
 · cases h;decide
 · cases hl:Eo (ds++[(d.name,d.vars.length)]) d.vars used d.cons with
   |error e'=>rw [hl] at h;cases h;exact ZN hl
   |ok us=>rw [hl] at h;cases h
theorem ZP:∀ {l done:List DE} {e:Int} {i:Nat},DN done l= .error (e,i)→e≠0
 |[],done,e,i,h=>by cases h
 |d::l,done,e,i,h=>by
  rw [DN] at h
  cases hd:Nl (Ct done) (I8 done) d with
  |error e'=>rw [hd] at h;cases h;exact kH hd
  |ok x=>
   rw [hd] at h
   cases hl:DN (done++[d]) l with
   |error e'=>rw [hl] at h;cases h;exact ZP hl
   |ok us=>rw [hl] at h;cases h
theorem O4 {p:Pg} {c a b:Int} (h:Jz p= .error (c,a,b)):c≠0:=by
 unfold Jz at h
 split at h
 · cases hl:DN [] p.data with
   |error x=>obtain ⟨e,i⟩:=x;rw [hl] at h;cases h;exact ZP hl
   |ok us=>rw [hl] at h;cases h
 · cases h;decide
theorem gA (ds:List DE) (fs:List FE) (dt:List Dat) (hdt:RJ dt) (f:FE) (hsz:f.body.size≤600) (hg:∀sc x,x∈B7 f.body sc→QW x.1) (σ:AF):
 AK Tryz.prog 30 [feA f,.fn 46 [.agg [.d (.sl (ds.map DE.enc)),.d (.sl (fs.map FE.enc)),.d (.sl (dt.map Dat.enc))]] []] σ
  (fun v σ'=>v=(match EB (EP fs dt) (B7 f.body f.params) with
    |none=>.tup [.d (.int .i64 ((f.body.size - 1:Nat):Int)),.d (.int .i64 0)]
    |some (k,c)=>.tup [.d (.int .i64 (k:Nat)),.d (.int .i64 c)])∧σ'=σ):=by
 refine (WR (S:=Unit) (fun _ x=>(EP fs dt x.1 x.2,())) (fun _=>σ) 46 [.agg [.d (.sl (ds.map DE.enc)),.d (.sl (fs.map FE.enc)),.d (.sl (dt.map Dat.enc))]] [] (by kernel_rfl) rfl rfl f () (by omega) (fun _ _ h=>h) (fun j hj x hx s n=>?_)).mono (fun v σ' h=>?_)
 · have:=mP ds fs dt hdt x.1 x.2 (hg _ _ hx) (WH (fun _=>σ) j (.fn 46 [.agg [.d (.sl (ds.map DE.enc)),.d (.sl (fs.map FE.enc)),.d (.sl (dt.map Dat.enc))]] []) n s)
   exact this
 · rw [Vw] at h
   split at h
   · rename_i hh;simp only [B1] at hh;rw [hh.1];exact h
   · rename_i hh;simp only [B1] at hh;rw [hh.1];exact h
theorem PX {vis:Ex→List Str→Int} {l:List (Ex×List Str)} {q:Nat} {c:Int} (h:EB vis l=some (q,c)):c≠0:=
 UR l () () (q,c) (by rw [Vw,h])
theorem MU (fs:List FE) (dt:List Dat) (m:List FE):∀(l:List FE) (i:Nat),(∀k f,l[k]?=some f→Lj fs dt (i+k) f=none)→FB fs dt i (l++m)=FB fs dt (i+l.length) m
 |[],i,_=>rfl
 |f::l,i,h=>by
  have h0:=h 0 f rfl
  rw [D5] at h0
  rw [Ac,FB,h0]
  simp only
  rw [MU fs dt m l (i+1) (fun k g hg=>by have:=h (k+1) g (by simpa using hg);rwa [show i+(k+1)=i+1+k by omega] at this)]
  congr 1
  simp;omega
theorem YP {s:Str}:∀ {l:List Str} {i:Nat},l[i]?=some s→∃k,Cd l s=some k∧k≤i
 |[],i,h=>by simp at h
 |x::l,i,h=>by
  rw [Cd]
  split
  · exact ⟨0,rfl,by omega⟩
  · rename_i hne
    cases i with
    |zero=>simp at h;simp [h] at hne
    |succ i=>
     obtain ⟨k,h1,h2⟩:=YP (l:=l) (i:=i) (by simpa using h)
     exact ⟨k+1,by rw [h1];rfl,by omega⟩
theorem Kx (p:Pg) (σ:AF) (h:∀d∈p.data,HT d):AK Tryz.prog 18 [pgA p] σ (fun v σ'=>v=dgA (KJ p)∧σ'=σ):=by
 have hdat:=XC p σ h
 refine Wi (by simp) ?_
 rw [Bf]
 unfold KJ
 cases hdp:Jz p with
 |error d=>
  rw [hdp] at hdat
  obtain ⟨c,a,b⟩:=d
  obtain ⟨ds,fs⟩:=p
  simp only [pgA,Pg.enc,AH,AM,TT,dgA,dsA] at hdat ⊢
  have hne:(c != 0)=true:=by simpa using O4 hdp
  (repeat' (first|refine Run.ct rfl ?_|((first|refine Run.reg mixed ?_|refine Run.AD ?_|refine Run.Er Fl (AF.le_refl _) ?_|refine AI.det (hdat) ?_)<;>try simp -implicitDefEqProofs only [hne,go_sem])|fail))
 |ok dt=>
 rw [hdp] at hdat
 obtain ⟨hval,hgo⟩:=JN hdp
 obtain ⟨hfl,hgood⟩:=Iq hval
 obtain ⟨ds,fs⟩:=p
 have hfun:=fun s=>O9 ⟨ds,fs⟩ s σ
 simp only [pgA,Pg.enc,AH,AM,TT,dgA,dsA] at hdat hfun hfl hgood ⊢
 have h00:((0:Int) != 0)=false:=by decide
 (repeat' (first|refine Run.ct rfl ?_|((first|refine Run.reg mixed ?_|refine Run.AD ?_|refine AI.det (hdat) ?_)<;>try simp -implicitDefEqProofs only [h00,AA,go_sem])|fail))
 have hdt:RJ dt:=(JM hgo).2.2.2.2 1000000 (fun d hd=>by have:=((P6 hval h).2 d hd).1;omega)
 have hrep:=fun l=>La l σ
 have hbody:=fun f hf=>gA ds fs dt hdt f (hgood f hf).1 (hgood f hf).2.2 σ
 refine Run.Ay ?_
 refine Run.BB ((fun (a1:AV) (a2:AV) (a5:AV) (a23:AV) (a24:AV)=>fun (i:Nat)=>put 1 a1 (put 2 a2 (put 5 a5 (put 23 a23 (put 24 a24 (put 25 (.d (.int .i64 i)) U)))))) _ _ _ _ _) (fun _=>BA 1 [.d (.sl (ds.map DE.enc)),.d (.sl (fs.map FE.enc))] (BA 2 [.d (.int .i64 0),.d (.int .i64 0),.d (.int .i64 0)] (BA 5 [.d (.sl (ds.map DE.enc)),.d (.sl (fs.map FE.enc)),.d (.sl (dt.map Dat.enc))] E))) (fun _=>σ)
  (fun i=>i≤fs.length∧∀k f,fs[k]?=some f→k < i→Lj fs dt k f=none) (fun i=>fs.length - i) ?_ 0 ⟨by simp,fun k f _ hk=>by omega⟩
 rintro i ⟨hi,hno⟩ ih
 by_cases hlt:i < fs.length
 · obtain ⟨f,hf⟩:=Aw hlt
   have he:=Aq (enc:=FE.enc) hf
   have hw1:=A7 (show i+1≤9000000000000000000 by omega)
   have hgo2:FB fs dt 0 fs=FB fs dt i (f::fs.drop (i+1)):=by
    conv=>lhs;rw [show FB fs dt 0 fs=FB fs dt 0 (fs.take i++fs.drop i) by rw [A4],Bc hf]
    rw [MU fs dt _ _ 0 (fun k g hg=>?_),An,Ae,CT hi]
    rw [An]
    rw [BM] at hg
    split at hg
    · exact hno k g hg (by assumption)
    · cases hg
   rw [FB] at hgo2
   have hfn:=hfun f.name
   have hrp:=hrep f.params
   have hbd:=hbody f (AS hf)
   obtain ⟨k,hk,hki⟩:=YP (l:=Bm fs) (s:=f.name) (i:=i) (by rw [Bm,Ad,hf];rfl)
   rw [hk] at hfn
   simp only [Ee] at hfn
   have hF:Lj fs dt i f=if k < i∨Bo f.params=true then some (4,(i:Int),0) else match EB (EP fs dt) (B7 f.body f.params) with
    |some (k,c)=>some (c,(i:Int),(k:Int))
    |none=>none:=by
    unfold Lj
    rw [hk]
    have:(some k≠some i∨Bo f.params=true)↔(k < i∨Bo f.params=true):=by
     simp only [ne_eq,AJ]
     constructor
     · rintro (h|h)
       · exact .inl (by omega)
       · exact .inr h
     · rintro (h|h)
       · exact .inl (by omega)
       · exact .inr h
    simp only [this]
    split
    · rfl
    · cases EB (EP fs dt) (B7 f.body f.params)<;>rfl
   rw [hF] at hgo2
   have hnx:Lj fs dt i f=none→∀k g,fs[k]?=some g→k < i+1→Lj fs dt k g=none:=fun h0 k g hg hk=>by
    rcases Bt k i with h|h
    · exact hno k g hg h
    · have:k=i:=by omega
      subst this
      rw [hf] at hg;cases hg;exact h0
   rw [hF] at hnx
   clear hF
   obtain ⟨nm,ps,o,n,u,ns,ks,al⟩:=f
   simp only [FE.enc,Ex.A3,feA,AH,AM] at he hfn hrp hbd hgo2 hnx
   by_cases hki2:k < i
   · have hd:decide ((k:Int) < (i:Int))=true:=by simpa using hki2
     rw [if_pos (.inl hki2)] at hgo2
     simp only at hgo2
     rw [hgo2]
     (repeat' (first|refine Run.ct rfl ?_|((first|refine Run.reg mixed ?_|refine Run.AD ?_|refine Run.Er Fl (AF.le_refl _) ?_|refine AI.det (hfn) ?_)<;>try simp -implicitDefEqProofs only [A8 hlt,he,hd,go_sem])|fail))
   have hd:decide ((k:Int) < (i:Int))=false:=by simpa using hki2
   cases htw:Bo ps with
   |true=>
    rw [htw] at hgo2 hrp
    rw [if_pos (.inr rfl)] at hgo2
    simp only at hgo2
    rw [hgo2]
    (repeat' (first|refine Run.ct rfl ?_|((first|refine Run.reg mixed ?_|refine Run.AD ?_|refine Run.Er Fl (AF.le_refl _) ?_|refine AI.det (hfn) ?_|refine AI.det (hrp) ?_)<;>try simp -implicitDefEqProofs only [A8 hlt,he,hd,go_sem])|fail))
   |false=>
   rw [htw] at hgo2 hrp hnx
   rw [if_neg (by simp;omega)] at hgo2 hnx
   cases her:EB (EP fs dt) (B7 (.mk o n u ns ks al) ps) with
   |some y=>
    obtain ⟨q,c⟩:=y
    rw [her] at hgo2 hbd
    simp only at hgo2 hbd
    rw [hgo2]
    have hcn:(c != 0)=true:=by simpa using PX her
    (repeat' (first|refine Run.ct rfl ?_|((first|refine Run.reg mixed ?_|refine Run.AD ?_|refine Run.Er Fl (AF.le_refl _) ?_|refine AI.det (hfn) ?_|refine AI.det (hrp) ?_|refine AI.det (hbd) ?_)<;>try simp -implicitDefEqProofs only [A8 hlt,he,hd,hcn,go_sem])|fail))
   |none=>
    rw [her] at hbd hnx
    simp only at hbd hnx
    (repeat' (first|refine Run.ct rfl ?_|((first|refine Run.reg mixed ?_|refine Run.AD ?_|refine AI.det (hfn) ?_|refine AI.det (hrp) ?_|refine AI.det (hbd) ?_)<;>try simp -implicitDefEqProofs only [A8 hlt,he,hd,h00,hw1,go_sem])|fail))
    exact ih (i+1) ⟨by omega,hnx trivial⟩ (by omega)
 · have hall:FB fs dt 0 fs=(0,0,0):=by
    have:=MU fs dt [] fs 0 (fun k g hg=>by rw [An];exact hno k g hg (by have:=(AR.1 hg).1;omega))
    rw [At] at this
    rw [this];rfl
   rw [hall]
   (repeat' (first|refine Run.ct rfl ?_|((first|refine Run.reg mixed ?_|refine Run.AD ?_|refine Run.Er Fl (AF.le_refl _) ?_)<;>try simp -implicitDefEqProofs only [B8 hlt,go_sem])|fail))
end Go.Ab
