/- Scope: a declaration resolved. Scope: the declarations resolved. Scope: Data. Scope: what a valid program promises. Scope: Check. Conditions: none. -/
import Derived.Test.YtlckhmkeihbhmaaGreatXVi
set_option linter.unusedSimpArgs false
set_option linter.unusedVariables false
set_option maxRecDepth 4000
set_option maxHeartbeats 8000000
open List renaming map_cons→AG,map_nil→AQ,length_map→AA,eq_nil_of_length_eq_zero→Av,take_append_drop→A3,length_drop→Br,drop_drop→Dp,nil_append→Ay,append_nil→Ao,cons_append→Aa,append_assoc→Ae,flatMap_cons→Lb,mem_cons→Bc,mem_cons_self→BG,mem_cons_of_mem→B6,all_eq_true→Ah,length_take→Ai,mem_of_mem_take→Bg,mem_of_getElem?→AT,take_of_length_le→AK,mem_append→A7,getElem?_take→BF,getElem?_map→Ag,getElem?_eq_some_iff→AR
open Option renaming isSome_some→Bn,isSome_none→CC,bind_eq_bind→AN,bind_eq_some_iff→AB,isSome_iff_exists→S8
open Bool renaming true_or→JO,false_or→DL,false_eq_true→AY,and_eq_true→AP
open Except renaming map→CP
open Nat renaming min_eq_left→CO,le_trans→BS,le_refl→A0,add_zero→Ds,zero_add→Am,lt_or_ge→Bt
open Prod.mk renaming injEq→B4
open Option.some renaming injEq→AJ
namespace Go.Ab
open Go.Proofs
def m5 (σ0:AF) (jr:Nat) (dl:List Dat) (nm:Str) (vs:List Str) (cs:List CE) (x1 x2 x3:AV) (F':Fm) (L':Lm) (σ':AF):Prop:=
 ∃jd cells,ME [0,3] F'=put 0 (.gp jr 0) (put 3 (.lp 3 0) U)∧IS [0,3] L'=Az 3 [.d (.str nm),.d (.sl (vs.map Aw)),.d (.sl (cs.map CE.enc))] E∧APS σ0 jr dl nm vs.length .AZ x1 x2 x3 jd cells σ'
theorem APS.st {σ0 τ:AF} {jr:Nat} {dl:List Dat} {nm:Str} {k:Int} {cv x1 x2 x3:AV} {jd:Nat} {cs:List AV} (h:APS σ0 jr dl nm k cv x1 x2 x3 jd cs τ) (hjr:σ0.blk jr=none) (y1 y2 y3:AV):
 APS σ0 jr dl nm k cv y1 y2 y3 jd cs (τ.AO jr [.ms jd (dl.length+1) 3 eD,y1,y2,y3]):=
 ⟨by rw [AM,if_pos rfl],h.nb,h.ne,by rw [AM,if_neg h.ne];exact h.row,h.ok,DH h.le hjr⟩
theorem Yk (σ0:AF) (jr:Nat) (dl:List Dat) (hdl:dl.length≤1000) (hnn:∀d∈dl,0≤d.vars) (hdt:QS dl) (nm:Str) (vs:List Str) (cs:List CE) (hcs:cs.length≤1000) (hsm:∀c∈cs,Oj c∧c.args.length≤1000)
 (τ:AF) (dv x1 x2 x3:AV) (hb:τ.blk jr=some [dv,x1,x2,x3]) (hx:x1.BT=true∧x2.BT=true∧x3.BT=true) (hv:DlX σ0 jr τ dl dv) (hle:σ0.le τ) (hjr:σ0.blk jr=none):
 AL Tryz.prog 72 [.gp jr 0,deA ⟨nm,vs,cs⟩] τ (DQ σ0 jr dl (NF (EZ dl) (Gp dl) ⟨nm,vs,cs⟩)):=by
 refine LY (by simp [deA]) ?_
 rw [BX]
 simp only [DE.enc,deA,AG,AQ]
 have hfi:=Zs dl dv [x1,x2,x3] jr nm τ (by omega) hb hv.dls
 have hrep:=LG vs τ
 have hap:=fun K=>XX σ0 jr dl hdl nm vs cs τ dv x1 x2 x3 hb hx hv hle hjr K
 have hds:(EZ dl).map (·.1)=IY dl:=Tn dl
 unfold NF
 simp only [hds]
 have hin:(Ct (IY dl) nm).isSome=(IY dl).contains nm:=GI _ _
 cases hc:Ct (IY dl) nm with
 |some i=>
  rw [hc] at hin hfi
  simp only [Bn] at hin
  have hge:decide ((0:Int)≤(i:Int))=true:=by simp
  rw [← hin]
  simp only [JO,if_true]
  simp only [E9] at hfi
  (repeat' (first|refine Run.ct rfl ?_|((first|refine Run.reg mixed ?_|refine Run.AE ?_|refine Run.Fp CG (AF.le_refl _) ?_|refine AI.det (hfi) ?_)<;>try simp -implicitDefEqProofs only [hge,go_sem])|fail))
  exact ⟨rfl,by decide,hle⟩
 |none=>
 rw [hc] at hin hfi
 simp only [CC] at hin
 rw [← hin]
 simp only [E9] at hfi
 have hge:decide ((0:Int)≤-1)=false:=by decide
 cases ht:CA vs with
 |true=>
  rw [ht] at hrep
  simp only [DL,if_true]
  (repeat' (first|refine Run.ct rfl ?_|((first|refine Run.reg mixed ?_|refine Run.AE ?_|refine Run.Fp CG (AF.le_refl _) ?_|refine AI.det (hfi) ?_|refine AI.det (hrep) ?_)<;>try simp -implicitDefEqProofs only [hge,go_sem])|fail))
  exact ⟨rfl,by decide,hle⟩
 |false=>
 rw [ht] at hrep
 simp only [DL,AY,if_false]
 (repeat' (first|refine Run.ct rfl ?_|((first|refine Run.reg mixed ?_|refine Run.AE ?_|refine AI.det (hfi) ?_|refine AI.det (hrep) ?_)<;>try simp -implicitDefEqProofs only [hge,go_sem])|fail))
 refine Run.aF mixed (m5 σ0 jr dl nm vs cs x1 x2 x3) (hap _ (fun F' L' σ' jd cells h1 h2 h3=>⟨jd,cells,h1,h2,h3⟩)) ?_
 rintro F' L' σ' ⟨jd,cells,h1,h2,h3⟩
 rw [h1,h2]
 have hres:=h3.res
 have h4:=h3.st hjr (.d (.str nm)) (.d (.sl (vs.map Aw))) (.d (.sl (cs.map CE.enc)))
 have hres4:=h4.res
 have hw:IntKind.i64.wrap (((dl.length+1:Nat):Int) - 1)=(dl.length:Int):=by
  exact Ie (by omega)
 (repeat' (first|refine Run.ct rfl ?_|((first|refine Run.reg mixed ?_|refine Run.AE ?_)<;>try simp -implicitDefEqProofs only [hres,hres4,hw,AA,go_sem])|fail))
 exact Yj σ0 jr dl hdl hnn hdt nm vs cs hcs hsm _ jd cells hjr h4
end Go.Ab
namespace Go.Ab
open Go.Proofs
theorem H0.enc:∀ {dl:List Dat} {cs:List AV},H0 cs dl→∃ds,dvs cs=some ds∧chunk 3 dl.length ds=dl.map Dat.enc
 |[],cs,h=>by
  have:cs=[]:=Av (by simpa using h.1)
  subst this
  exact ⟨[],rfl,rfl⟩
 |d::dl,cs,h=>by
  obtain ⟨cv,h1,h2⟩:=h.2 0 d rfl
  simp only [Nat.zero_mul,List.drop_zero] at h1
  have hcs:cs= .d (.str d.name)::.d (.int .i64 d.vars)::cv::cs.drop 3:=by
   conv=>lhs;rw [← A3 3 cs,h1]
   rfl
  have ht:H0 (cs.drop 3) dl:=by
   refine ⟨by rw [Br,h.1];simp;omega,fun i x hx=>?_⟩
   obtain ⟨cv',h3,h4⟩:=h.2 (i+1) x hx
   refine ⟨cv',?_,h4⟩
   rw [Dp,← h3]
   congr 2
   omega
  obtain ⟨ds,h5,h6⟩:=H0.enc ht
  refine ⟨.str d.name::.int .i64 d.vars::.sl (d.cons.map Con.enc)::ds,?_,?_⟩
  · rw [hcs]
    have hcv:=h2.dv
    have e1:(AV.d (.str d.name)).dv=some (.str d.name):=rfl
    have e2:(AV.d (.int .i64 d.vars)).dv=some (.int .i64 d.vars):=rfl
    simp [dvs,hcv,h5,e1,e2]
  · simp [chunk,h6,Dat.enc]
def dgA (d:Dg):AV:= .agg [.d (.int .i64 d.1),.d (.int .i64 d.2.1),.d (.int .i64 d.2.2)]
def SR:Except Dg (List Dat)→AV
 | .ok dt=>.tup [dsA dt,dgA (0,0,0)]
 | .error d=>.tup [dsA [],dgA d]
theorem XW {ds:List (Str×Nat)} {used:List Str} {d:DE} {x:Dat} (h:NF ds used d= .ok x):x.name=d.name∧x.vars=d.vars.length∧x.cons.map (·.name)=d.cons.map (·.name):=by
 unfold NF at h
 split at h
 · cases h
 · cases hc:Ej (ds++[(d.name,d.vars.length)]) d.vars used d.cons with
   |error e=>rw [hc] at h;cases h
   |ok us=>
    rw [hc] at h
    cases h
    exact ⟨rfl,rfl,(Jz _ _ [] hc).2⟩
theorem Lv (m:List DE):∀ {l done:List DE} {xs:List Dat},DD done l= .ok xs→DD done (l++m)=(DD (done++l) m).map (xs++·)
 |[],done,xs,h=>by
  cases h
  simp only [Ay,Ao]
  cases DD done m<;>rfl
 |d::l,done,xs,h=>by
  rw [DD] at h
  rw [Aa,DD]
  cases hd:NF (Co done) (IU done) d with
  |error e=>rw [hd] at h;cases h
  |ok x=>
   rw [hd] at h
   simp only at h ⊢
   cases hl:DD (done++[d]) l with
   |error e=>rw [hl] at h;cases h
   |ok ys=>
    rw [hl] at h
    cases h
    rw [Lv m hl,Ae]
    simp only [Aa,Ay]
    cases DD (done++d::l) m<;>rfl
theorem Iy:∀ {l done:List DE} {xs:List Dat},DD done l= .ok xs→EZ xs=Co l∧Gp xs=IU l∧xs.length=l.length∧(∀x∈xs,0≤x.vars)∧(∀n,(∀d∈l,d.cons.length≤n)→∀x∈xs,x.cons.length≤n)
 |[],done,xs,h=>by cases h;simp [EZ,Co,Gp,IU]
 |d::l,done,xs,h=>by
  rw [DD] at h
  cases hd:NF (Co done) (IU done) d with
  |error e=>rw [hd] at h;cases h
  |ok x=>
   rw [hd] at h
   simp only at h
   cases hl:DD (done++[d]) l with
   |error e=>rw [hl] at h;cases h
   |ok ys=>
    rw [hl] at h
    cases h
    obtain ⟨f1,f2,f3⟩:=XW hd
    obtain ⟨g1,g2,g3,g4,g5⟩:=Iy hl
    have f4:x.cons.length=d.cons.length:=by simpa using congrArg List.length f3
    refine ⟨?_,?_,by simp [g3],?_,?_⟩
    · simp [EZ,Co,f1,f2] at g1 ⊢;exact g1
    · simp only [Gp,IU,Lb,f3] at g2 ⊢;rw [g2]
    · intro y hy
      rcases Bc.1 hy with rfl|hy
      · rw [f2];omega
      · exact g4 y hy
    · intro n hn y hy
      rcases Bc.1 hy with rfl|hy
      · rw [f4];exact hn d (BG ..)
      · exact g5 n (fun z hz=>hn z (B6 _ hz)) y hy
end Go.Ab
namespace Go.Ab
open Go.Proofs
theorem Ok {p:Pg} (hv:EF p=true) (h:∀d∈p.data,Hp d):p.data.length≤12∧∀d∈p.data,d.cons.length≤1000∧∀c∈d.cons,Oj c∧c.args.length≤1000:=by
 simp only [EF,AP,decide_eq_true_eq,Ah] at hv
 obtain ⟨⟨⟨h1,_⟩,h2⟩,_⟩:=hv
 refine ⟨h1,fun d hd=>?_⟩
 have:=h2 d hd
 simp only [Kz,AP,decide_eq_true_eq,Ah] at this
 obtain ⟨⟨_,h3⟩,h4⟩:=this
 refine ⟨by omega,fun c hc=>⟨h d hd c hc,?_⟩⟩
 have:=h4 c hc
 simp only [VN,AP,decide_eq_true_eq] at this
 omega
theorem fN {σ τ:AF} (h:σ.le τ):σ.le { τ with blk:=fun j=>if (σ.blk j).isSome then τ.blk j else none}:=
 ⟨fun i cs hi=>by simp only [hi,Bn,if_true];exact h.blk i cs hi,h.tok,h.gt,h.bt⟩
theorem Vc (p:Pg) (σ:AF) (h:∀d∈p.data,Hp d):AL Tryz.prog 44 [pgA p] σ (fun v σ'=>v=SR (ND p)∧σ'=σ):=by
 have hval:=TG p σ h
 refine Wa (by simp) ?_
 rw [Bj]
 unfold ND
 cases hvb:EF p with
 |false=>
  rw [hvb] at hval
  obtain ⟨ds,fs⟩:=p
  simp only [pgA,Pg.enc,AG,AQ] at hval ⊢
  (repeat' (first|refine Run.ct rfl ?_|((first|refine Run.reg mixed ?_|refine Run.AE ?_|(refine Run.A1 H9 (σ2:=σ) (AF.le_refl _) ?_)|refine AI.det (hval) ?_)<;>try simp -implicitDefEqProofs only [go_sem])|fail))
  rfl
 |true=>
 rw [hvb] at hval
 obtain ⟨hpl,hps⟩:=Ok hvb h
 obtain ⟨ds,fs⟩:=p
 simp only [pgA,Pg.enc,AG,AQ] at hval hpl hps ⊢
 (repeat' (first|refine Run.ct rfl ?_|((first|refine Run.reg mixed ?_|refine Run.AE ?_|refine AI.det (hval) ?_)<;>try simp -implicitDefEqProofs only [AA,go_sem])|fail))
 intro jr hj
 generalize hQ:(fun (v:AV) (σ':AF)=>v=SR (match DD [] ds with| .error (e,i)=>.error (e,-1,(i:Int))| .ok l=>.ok l)∧σ'=σ)=Q
 have herr:∀(e:Int) (i:Nat),DD [] ds= .error (e,i)→Q (.tup [.d (.sl []),.agg [.d (.int .i64 e),.d (.int .i64 (-1)),.d (.int .i64 i)]]) σ:=fun e i hd=>by
  rw [← hQ,hd];exact ⟨rfl,rfl⟩
 have hok:∀(l:List Dat),DD [] ds= .ok l→Q (.tup [dsA l,.agg [.d (.int .i64 0),.d (.int .i64 0),.d (.int .i64 0)]]) σ:=fun l hd=>by
  rw [← hQ,hd];exact ⟨rfl,rfl⟩
 clear hQ
 have hle0:=Bl (cs:=[AV.AZ,.d (.str []),.AZ,.AZ]) hj
 (repeat' (first|refine Run.ct rfl ?_|((first|refine Run.reg mixed ?_|refine Run.AE ?_)<;>try simp -implicitDefEqProofs only [AA,go_sem])|fail))
 refine Run.BD ?_
 refine Run.BK ((fun (a3:AV) (a4:AV) (a15:AV) (a16:AV)=>fun (y:Nat×List Dat×AF)=>put 3 a3 (put 4 a4 (put 15 a15 (put 16 a16 (put 17 (.d (.int .i64 y.1)) U))))) _ _ _ _) (fun _=>Az 3 [.d (.int .i64 0),.d (.int .i64 0),.d (.int .i64 0)] E) (fun y=>y.2.2)
  (fun y=>y.1≤ds.length∧DD [] (ds.take y.1)= .ok y.2.1∧∃dv y1 y2 y3,y.2.2.blk jr=some [dv,y1,y2,y3]∧(y1.BT=true∧y2.BT=true∧y3.BT=true)∧DlX σ jr y.2.2 y.2.1 dv∧σ.le y.2.2)
  (fun y=>ds.length - y.1) ?_ (0,[],_) ⟨by simp,rfl,.AZ,.d (.str []),.AZ,.AZ,by simp only [AM,if_true],⟨rfl,rfl,rfl⟩,.inl ⟨rfl,rfl⟩,hle0⟩
 rintro ⟨i,dl,τ⟩ ⟨hi,hgo,dv,y1,y2,y3,hb,hx,hv,hle⟩ ih
 simp only at hi hgo hb hv hle
 obtain ⟨f1,f2,f3,f4,f5⟩:=Iy hgo
 have hlen:dl.length=i:=by rw [f3,Ai];omega
 by_cases hlt:i < ds.length
 · obtain ⟨d,hd⟩:=BC hlt
   have he:=BA (enc:=DE.enc) hd
   have hw1:=A5 (show i+1≤9000000000000000000 by omega)
   have hdt:QS dl:=f5 1000000 (fun d hd=>by have:=(hps d (Bg hd)).1;omega)
   obtain ⟨hc1,hc2⟩:=hps d (AT hd)
   obtain ⟨nm,vs,cs⟩:=d
   have hc:=Yk σ jr dl (by omega) f4 hdt nm vs cs hc1 hc2 τ dv y1 y2 y3 hb hx hv hle hj
   have hall:DD [] ds=(DD (ds.take i) (⟨nm,vs,cs⟩::ds.drop (i+1))).map (dl++·):=by
    conv=>lhs;rw [← A3 i ds,B3 hd]
    exact Lv _ hgo
   have hsn:DD [] (ds.take (i+1))=(DD (ds.take i) [⟨nm,vs,cs⟩]).map (dl++·):=by
    rw [BH hd];exact Lv _ hgo
   rw [DD,← f1,← f2] at hall hsn
   simp only [DE.enc,deA,AG,AQ] at he hc
   cases hr:NF (EZ dl) (Gp dl) ⟨nm,vs,cs⟩ with
   |error e=>
    rw [hr] at hc hall
    simp only [CP,Ai,CO hi] at hall
    have hc':=AL.mono hc (Q':=fun v σ'=>v= .d (.int .i64 e)∧e≠0∧σ.le σ') (fun v σ' h=>h)
    (repeat' (first|refine Run.ct rfl ?_|((first|refine Run.reg mixed ?_|refine Run.AE ?_|(refine AI.mk rfl hc' ?_;rintro _ τ' ⟨rfl,hne,hle'⟩))<;>try simp -implicitDefEqProofs only [Ac hlt,he,go_sem])|(refine ⟨fun h=>?_,fun h=>?_⟩<;>first|(cases h;done)|try simp only [h])|fail))
    case refine_2=>exact absurd ‹(e != 0)=false› (by simp [hne])
    (repeat' (first|refine Run.ct rfl ?_|((first|refine Run.reg mixed ?_|refine Run.AE ?_|(refine Run.A1 H9 (σ2:=σ) hle' ?_))<;>try simp -implicitDefEqProofs only [go_sem])|fail))
    exact herr e i hall
   |ok x=>
    rw [hr] at hc hsn
    simp only [DD,CP] at hsn
    have hc':=AL.mono hc (Q':=fun v σ'=>v= .d (.int .i64 0)∧σ.le σ'∧∃dv y1 y2 y3,σ'.blk jr=some [dv,y1,y2,y3]∧(y1.BT=true∧y2.BT=true∧y3.BT=true)∧DlX σ jr σ' (dl++[x]) dv) (fun v σ' h=>h)
    have h00:((0:Int) != 0)=false:=by decide
    (repeat' (first|refine Run.ct rfl ?_|((first|refine Run.reg mixed ?_|refine Run.AE ?_|(refine AI.mk rfl hc' ?_;rintro _ τ' ⟨rfl,hle',dv',z1,z2,z3,hb',hx',hv'⟩))<;>try simp -implicitDefEqProofs only [Ac hlt,he,hw1,go_sem])|(refine ⟨fun h=>?_,fun h=>?_⟩<;>first|(cases h;done)|try simp only [h])|fail))
    (repeat' (first|refine Run.ct rfl ?_|((first|refine Run.reg mixed ?_|refine Run.AE ?_)<;>try simp -implicitDefEqProofs only [h00,hw1,go_sem])|fail))
    exact ih (i+1,dl++[x],τ') ⟨by simp only;omega,hsn,dv',z1,z2,z3,hb',hx',hv',hle'⟩ (by simp only;omega)
 · rw [AK (by omega)] at hgo
   have hfin:=hok dl hgo
   rcases hv with ⟨rfl,rfl⟩|⟨jd,cells,rfl,hn,hne,hbd,hrows⟩
   · (repeat' (first|refine Run.ct rfl ?_|((first|refine Run.reg mixed ?_|refine Run.AE ?_|(refine Run.A1 H9 (σ2:=σ) hle ?_))<;>try simp -implicitDefEqProofs only [Bi hlt,hb,go_sem])|fail))
     exact hfin
   · obtain ⟨dvl,hdv,hch⟩:=hrows.enc
     (repeat' (first|refine Run.ct rfl ?_|((first|refine Run.reg mixed ?_|refine Run.AE ?_)<;>try simp -implicitDefEqProofs only [Bi hlt,hb,go_sem])|fail))
     refine Run.freeze (F':=put 2 (dsA dl) (put 3 (.lp 3 0) U)) (σ':= { τ with blk:=fun j=>if (σ.blk j).isSome then τ.blk j else none}) hbd hdv hrows.1 (BS (show dl.length≤12 by omega) (by decide)) (fun s=>?_) (fun k cs' hk=>⟨cs',hk,.inl rfl⟩) (fun j cs' hj'=>?_) (fun _ h=>h) ?_
     · by_cases h2:s=2
       · subst h2
         right
         simp only [EX,if_true,frz,and_self,dsA,hch]
       · left
         simp only [EX,if_neg h2]
     · simp only at hj'
       cases hs:σ.blk j with
       |none=>rw [hs] at hj';cases hj'
       |some c=>
        rw [hs] at hj'
        exact ⟨(fun e=>by rw [e,hn] at hs;cases hs),cs',hj',.inl rfl⟩
     · refine Run.A1 H9 (σ2:=σ) (fN hle) ?_
       simp -implicitDefEqProofs only [Pe,dsA,go_sem]
       exact hfin
end Go.Ab
namespace Go.Ab
open Go.Proofs
theorem ZG {a:Nat}:∀ {l:List Nat},a∈l→a≤l.sum
 |x::l,h=>by
  rw [List.sum_cons]
  rcases Bc.1 h with rfl|h
  · omega
  · have:=ZG h;omega
def nb1 (e:Ex):Prop:=LC e.op e.name e.num e.names e.kids.length e.alts=true
def NB (e:Ex):Prop:=nb1 e∧∀k∈e.kids,nb1 k
theorem Lw {α:Type} {f:Nat→α→Option Nat} {sz:α→Nat} {Q:α→Prop}:∀(l:List α) (q r:Nat),(∀x∈l,∀a b,f a x=some b→sz x+b=a∧Q x)→l.foldlM f q=some r→(l.map sz).sum+r=q∧∀x∈l,Q x
 |[],q,r,_,h=>by simp at h;simp [h]
 |x::l,q,r,hf,h=>by
  rw [List.foldlM_cons,AN,AB] at h
  obtain ⟨b,hb,h⟩:=h
  obtain ⟨h1,h2⟩:=hf x (BG ..) q b hb
  obtain ⟨h3,h4⟩:=Lw l b r (fun y hy=>hf y (B6 _ hy)) h
  refine ⟨by simp;omega,fun y hy=>?_⟩
  rcases Bc.1 hy with rfl|hy
  · exact h2
  · exact h4 y hy
theorem Ex.Ib:∀l:List Ex,Ex.A2 l=(l.map Ex.size).sum
 |[]=>rfl
 |x::l=>by simp [Ex.A2,Ex.Ib l]
theorem Al.Ib:∀l:List Al,Al.A2 l=(l.map Al.size).sum
 |[]=>rfl
 |x::l=>by simp [Al.A2,Al.Ib l]
theorem Rk {o:Int} {n:Str} {ns sc:List Str} {x:Ex×List Str}:∀ {l:List Ex} {i:Nat},x∈Bf o n ns sc i l→∃k∈l,∃sc',x∈Ba k sc'
 |[],i,h=>by simp [Bf] at h
 |k::l,i,h=>by
  rw [Bf,A7] at h
  rcases h with h|h
  · exact ⟨k,BG ..,_,h⟩
  · obtain ⟨k',h1,h2⟩:=Rk h
    exact ⟨k',B6 _ h1,h2⟩
theorem Of {sc:List Str} {x:Ex×List Str}:∀ {l:List Al},x∈Bw sc l→∃a∈l,x∈Rp a sc
 |[],h=>by simp [Bw] at h
 |k::l,h=>by
  rw [Bw,A7] at h
  rcases h with h|h
  · exact ⟨k,BG ..,h⟩
  · obtain ⟨k',h1,h2⟩:=Of h
    exact ⟨k',B6 _ h1,h2⟩
theorem O4:∀(d q:Nat) (e:Ex) (r:Nat),vEx d q e=some r→e.size+r=q∧(nb1 e∧∀sc x,x∈Ba e sc→NB x.1)
 |0,q,e,r,h=>by simp [vEx] at h
 |d+1,0,.mk ..,r,h=>by cases h
 |d+1,q+1,.mk o n u ns ks al,r,h=>by
  simp only [vEx] at h
  split at h
  · rename_i hn
    rw [AB] at h
    obtain ⟨c,hc,h⟩:=h
    obtain ⟨h1,h2⟩:=Lw (sz:=Ex.size) (Q:=fun e=>nb1 e∧∀sc x,x∈Ba e sc→NB x.1) ks q c (fun x _ a b hab=>O4 d a x b hab) hc
    obtain ⟨h3,h4⟩:=Lw (sz:=Al.size) (Q:=fun a=>∀sc x,x∈Rp a sc→NB x.1) al c r (fun x _ a b hab=>by
     cases x with
     |mk cc vs bd=>
      obtain ⟨g1,g2⟩:=O4 d a _ b hab
      exact ⟨g1,fun sc x hx=>g2.2 _ x (by rw [Rp] at hx;exact hx)⟩) h
    have hnb:nb1 (.mk o n u ns ks al):=hn
    refine ⟨by rw [Ex.size,Ex.Ib,Al.Ib];omega,hnb,fun sc x hx=>?_⟩
    rw [Ba,Bc,A7] at hx
    rcases hx with rfl|hx|hx
    · exact ⟨hnb,fun k hk=>(h2 k hk).1⟩
    · obtain ⟨k,hk,sc',hx⟩:=Rk hx
      exact (h2 k hk).2 sc' x hx
    · obtain ⟨a,ha,hx⟩:=Of hx
      exact h4 a ha _ x hx
  · simp at h
theorem fU {s:Str} (h:EJ s=true):s≠[]:=by
 rintro rfl
 revert h;decide
theorem Xi {e:Ex} (h:nb1 e) (ho:e.op=4):e.name≠[]:=by
 unfold nb1 LC nmB at h
 simp only [ho,AP,if_true] at h
 exact fU h.1.1.1.1
theorem NB.lQ {e:Ex} (h:NB e) (hs:e.size≤1000000):X4 e:=by
 obtain ⟨h1,h2⟩:=h
 obtain ⟨o,n,u,ns,ks,al⟩:=e
 simp only [Ex.size] at hs
 have hkl:=Ex.C8 ks
 have hal:=Al.C8 al
 refine ⟨Xi h1,fun ho=>?_,by simp only [Ex.alts];omega,by simp only [Ex.kids];omega⟩
 simp only [Ex.op] at ho
 subst ho
 unfold nb1 LC nkB at h1
 simp only [Ex.op,Ex.kids,AP] at h1
 have h3:=h1.2
 simp at h3
 cases ks with
 |nil=>simp at h3
 |cons k ks=>exact ⟨k,ks,rfl,fun hk=>Xi (h2 k (BG ..)) hk⟩
theorem UK:∀(N:Nat) (e:Ex) (sc:List Str) (x:Ex×List Str),e.size≤N→x∈Ba e sc→x.1.size≤e.size
 |0,e,sc,x,h,_=>by have:=Ex.size_pos e;omega
 |N+1,.mk o n u ns ks al,sc,x,h,hx=>by
  rw [Ba,Bc,A7] at hx
  rw [Ex.size] at h ⊢
  have hmk:∀k∈ks,k.size≤Ex.A2 ks:=fun k hk=>by
   rw [Ex.Ib];exact ZG (List.mem_map_of_mem hk)
  have hma:∀k∈al,k.size≤Al.A2 al:=fun k hk=>by
   rw [Al.Ib];exact ZG (List.mem_map_of_mem hk)
  rcases hx with rfl|hx|hx
  · rw [Ex.size];omega
  · obtain ⟨k,hk,sc',hx⟩:=Rk hx
    have:=UK N k sc' x (by have:=hmk k hk;omega) hx
    have:=hmk k hk
    omega
  · obtain ⟨a,ha,hx⟩:=Of hx
    have h1:=hma a ha
    cases a with
    |mk c vs b=>
     rw [Rp] at hx
     rw [Al.size] at h1
     have:=UK N b _ x (by omega) hx
     omega
theorem Qk:∀(l:List FE) (q r:Nat),l.foldlM L9 q=some r→∀f∈l,f.body.size≤q∧f.params.length≤6∧∀sc x,x∈Ba f.body sc→NB x.1
 |[],q,r,_,f,hf=>by simp at hf
 |g::l,q,r,h,f,hf=>by
  rw [List.foldlM_cons,AN,AB] at h
  obtain ⟨b,hb,h⟩:=h
  unfold L9 at hb
  split at hb
  · rename_i hh
    obtain ⟨h1,h2,h3⟩:=O4 _ _ _ _ hb
    rcases Bc.1 hf with rfl|hf
    · simp only [fD,AP,decide_eq_true_eq] at hh
      exact ⟨by omega,hh.1.2,h3⟩
    · have:=Qk l b r h f hf
      exact ⟨by omega,this.2⟩
  · cases hb
theorem Mv {p:Pg} (h:EF p=true):p.NP.length≤24∧∀f∈p.NP,f.body.size≤600∧f.params.length≤6∧∀sc x,x∈Ba f.body sc→X4 x.1:=by
 simp only [EF,AP,decide_eq_true_eq] at h
 obtain ⟨⟨⟨_,h1⟩,_⟩,h2⟩:=h
 obtain ⟨r,hr⟩:=S8.1 h2
 refine ⟨h1,fun f hf=>?_⟩
 obtain ⟨g1,g2,g3⟩:=Qk _ _ _ hr f hf
 exact ⟨g1,g2,fun sc x hx=>(g3 sc x hx).lQ (by have:=UK _ _ _ _ (A0 _) hx;omega)⟩
theorem Ub (vis:Ex→List Str→Int):∀l:List (Ex×List Str),G9 (fun (_:Unit) x=>(vis x.1 x.2,())) l ()=(EL vis l,())
 |[]=>rfl
 |x::l=>by
  rw [G9,EL,Ub vis l]
  split<;>rfl
end Go.Ab
namespace Go.Ab
open Go.Proofs
theorem Ns {p:Pg} {dt:List Dat} (hv:ND p= .ok dt):EF p=true∧DD [] p.data= .ok dt:=by
 unfold ND at hv
 split at hv
 · rename_i h
   split at hv
   · cases hv
   · rename_i l hl;cases hv;exact ⟨h,hl⟩
 · cases hv
theorem XS {ds:List (Str×Nat)} {vars:List Str}:∀ {l:List CE} {used:List Str} {e:Int},Ej ds vars used l= .error e→e≠0
 |[],used,e,h=>by cases h
 |c::l,used,e,h=>by
  rw [Ej] at h
  split at h
  · cases h;decide
  · cases ha:Di ds vars c.args with
    |error e'=>rw [ha] at h;cases h;exact XH ha
    |ok ts=>
     rw [ha] at h
     cases hl:Ej ds vars (used++[c.name]) l with
     |error e'=>rw [hl] at h;cases h;exact XS hl
     |ok us=>rw [hl] at h;cases h
theorem eV {ds:List (Str×Nat)} {used:List Str} {d:DE} {e:Int} (h:NF ds used d= .error e):e≠0:=by
 unfold NF at h
 split at h
 · cases h;decide
 · cases hl:Ej (ds++[(d.name,d.vars.length)]) d.vars used d.cons with
   |error e'=>rw [hl] at h;cases h;exact XS hl
   |ok us=>rw [hl] at h;cases h
theorem XV:∀ {l done:List DE} {e:Int} {i:Nat},DD done l= .error (e,i)→e≠0
 |[],done,e,i,h=>by cases h
 |d::l,done,e,i,h=>by
  rw [DD] at h
  cases hd:NF (Co done) (IU done) d with
  |error e'=>rw [hd] at h;cases h;exact eV hd
  |ok x=>
   rw [hd] at h
   cases hl:DD (done++[d]) l with
   |error e'=>rw [hl] at h;cases h;exact XV hl
   |ok us=>rw [hl] at h;cases h
theorem Tm {p:Pg} {c a b:Int} (h:ND p= .error (c,a,b)):c≠0:=by
 unfold ND at h
 split at h
 · cases hl:DD [] p.data with
   |error x=>obtain ⟨e,i⟩:=x;rw [hl] at h;cases h;exact XV hl
   |ok us=>rw [hl] at h;cases h
 · cases h;decide
theorem bB (ds:List DE) (fs:List FE) (dt:List Dat) (hdt:QS dt) (f:FE) (hsz:f.body.size≤600) (hg:∀sc x,x∈Ba f.body sc→X4 x.1) (σ:AF):
 AL Tryz.prog 30 [feA f,.fn 46 [.agg [.d (.sl (ds.map DE.enc)),.d (.sl (fs.map FE.enc)),.d (.sl (dt.map Dat.enc))]] []] σ
  (fun v σ'=>v=(match EL (E0 fs dt) (Ba f.body f.params) with
    |none=>.tup [.d (.int .i64 ((f.body.size - 1:Nat):Int)),.d (.int .i64 0)]
    |some (k,c)=>.tup [.d (.int .i64 (k:Nat)),.d (.int .i64 c)])∧σ'=σ):=by
 refine (Us (S:=Unit) (fun _ x=>(E0 fs dt x.1 x.2,())) (fun _=>σ) 46 [.agg [.d (.sl (ds.map DE.enc)),.d (.sl (fs.map FE.enc)),.d (.sl (dt.map Dat.enc))]] [] (by kernel_rfl) rfl rfl f () (by omega) (fun _ _ h=>h) (fun j hj x hx s n=>?_)).mono (fun v σ' h=>?_)
 · have:=hH ds fs dt hdt x.1 x.2 (hg _ _ hx) (WH (fun _=>σ) j (.fn 46 [.agg [.d (.sl (ds.map DE.enc)),.d (.sl (fs.map FE.enc)),.d (.sl (dt.map Dat.enc))]] []) n s)
   exact this
 · rw [Ub] at h
   split at h
   · rename_i hh;simp only [B4] at hh;rw [hh.1];exact h
   · rename_i hh;simp only [B4] at hh;rw [hh.1];exact h
theorem Qi {vis:Ex→List Str→Int} {l:List (Ex×List Str)} {q:Nat} {c:Int} (h:EL vis l=some (q,c)):c≠0:=
 TO l () () (q,c) (by rw [Ub,h])
theorem Lu (fs:List FE) (dt:List Dat) (m:List FE):∀(l:List FE) (i:Nat),(∀k f,l[k]?=some f→Qe fs dt (i+k) f=none)→Fx fs dt i (l++m)=Fx fs dt (i+l.length) m
 |[],i,_=>rfl
 |f::l,i,h=>by
  have h0:=h 0 f rfl
  rw [Ds] at h0
  rw [Aa,Fx,h0]
  simp only
  rw [Lu fs dt m l (i+1) (fun k g hg=>by have:=h (k+1) g (by simpa using hg);rwa [show i+(k+1)=i+1+k by omega] at this)]
  congr 1
  simp;omega
theorem Wc {s:Str}:∀ {l:List Str} {i:Nat},l[i]?=some s→∃k,Ct l s=some k∧k≤i
 |[],i,h=>by simp at h
 |x::l,i,h=>by
  rw [Ct]
  split
  · exact ⟨0,rfl,by omega⟩
  · rename_i hne
    cases i with
    |zero=>simp at h;simp [h] at hne
    |succ i=>
     obtain ⟨k,h1,h2⟩:=Wc (l:=l) (i:=i) (by simpa using h)
     exact ⟨k+1,by rw [h1];rfl,by omega⟩
theorem OY (p:Pg) (σ:AF) (h:∀d∈p.data,Hp d):AL Tryz.prog 18 [pgA p] σ (fun v σ'=>v=dgA (NN p)∧σ'=σ):=by
 have hdat:=Vc p σ h
 refine VS (by simp) ?_
 rw [Bj]
 unfold NN
 cases hdp:ND p with
 |error d=>
  rw [hdp] at hdat
  obtain ⟨c,a,b⟩:=d
  obtain ⟨ds,fs⟩:=p
  simp only [pgA,Pg.enc,AG,AQ,SR,dgA,dsA] at hdat ⊢
  have hne:(c != 0)=true:=by simpa using Tm hdp
  (repeat' (first|refine Run.ct rfl ?_|((first|refine Run.reg mixed ?_|refine Run.AE ?_|refine Run.Fp F7 (AF.le_refl _) ?_|refine AI.det (hdat) ?_)<;>try simp -implicitDefEqProofs only [hne,go_sem])|fail))
 |ok dt=>
 rw [hdp] at hdat
 obtain ⟨hval,hgo⟩:=Ns hdp
 obtain ⟨hfl,hgood⟩:=Mv hval
 obtain ⟨ds,fs⟩:=p
 have hfun:=fun s=>Nx ⟨ds,fs⟩ s σ
 simp only [pgA,Pg.enc,AG,AQ,SR,dgA,dsA] at hdat hfun hfl hgood ⊢
 have h00:((0:Int) != 0)=false:=by decide
 (repeat' (first|refine Run.ct rfl ?_|((first|refine Run.reg mixed ?_|refine Run.AE ?_|refine AI.det (hdat) ?_)<;>try simp -implicitDefEqProofs only [h00,AA,go_sem])|fail))
 have hdt:QS dt:=(Iy hgo).2.2.2.2 1000000 (fun d hd=>by have:=((Ok hval h).2 d hd).1;omega)
 have hrep:=fun l=>LG l σ
 have hbody:=fun f hf=>bB ds fs dt hdt f (hgood f hf).1 (hgood f hf).2.2 σ
 refine Run.BD ?_
 refine Run.BK ((fun (a1:AV) (a2:AV) (a5:AV) (a23:AV) (a24:AV)=>fun (i:Nat)=>put 1 a1 (put 2 a2 (put 5 a5 (put 23 a23 (put 24 a24 (put 25 (.d (.int .i64 i)) U)))))) _ _ _ _ _) (fun _=>Az 1 [.d (.sl (ds.map DE.enc)),.d (.sl (fs.map FE.enc))] (Az 2 [.d (.int .i64 0),.d (.int .i64 0),.d (.int .i64 0)] (Az 5 [.d (.sl (ds.map DE.enc)),.d (.sl (fs.map FE.enc)),.d (.sl (dt.map Dat.enc))] E))) (fun _=>σ)
  (fun i=>i≤fs.length∧∀k f,fs[k]?=some f→k < i→Qe fs dt k f=none) (fun i=>fs.length - i) ?_ 0 ⟨by simp,fun k f _ hk=>by omega⟩
 rintro i ⟨hi,hno⟩ ih
 by_cases hlt:i < fs.length
 · obtain ⟨f,hf⟩:=BC hlt
   have he:=BA (enc:=FE.enc) hf
   have hw1:=A5 (show i+1≤9000000000000000000 by omega)
   have hgo2:Fx fs dt 0 fs=Fx fs dt i (f::fs.drop (i+1)):=by
    conv=>lhs;rw [show Fx fs dt 0 fs=Fx fs dt 0 (fs.take i++fs.drop i) by rw [A3],B3 hf]
    rw [Lu fs dt _ _ 0 (fun k g hg=>?_),Am,Ai,CO hi]
    rw [Am]
    rw [BF] at hg
    split at hg
    · exact hno k g hg (by assumption)
    · cases hg
   rw [Fx] at hgo2
   have hfn:=hfun f.name
   have hrp:=hrep f.params
   have hbd:=hbody f (AT hf)
   obtain ⟨k,hk,hki⟩:=Wc (l:=CX fs) (s:=f.name) (i:=i) (by rw [CX,Ag,hf];rfl)
   rw [hk] at hfn
   simp only [E9] at hfn
   have hF:Qe fs dt i f=if k < i∨CA f.params=true then some (4,(i:Int),0) else match EL (E0 fs dt) (Ba f.body f.params) with
    |some (k,c)=>some (c,(i:Int),(k:Int))
    |none=>none:=by
    unfold Qe
    rw [hk]
    have:(some k≠some i∨CA f.params=true)↔(k < i∨CA f.params=true):=by
     simp only [ne_eq,AJ]
     constructor
     · rintro (h|h)
       · exact .inl (by omega)
       · exact .inr h
     · rintro (h|h)
       · exact .inl (by omega)
       · exact .inr h
    simp only [this]
    split
    · rfl
    · cases EL (E0 fs dt) (Ba f.body f.params)<;>rfl
   rw [hF] at hgo2
   have hnx:Qe fs dt i f=none→∀k g,fs[k]?=some g→k < i+1→Qe fs dt k g=none:=fun h0 k g hg hk=>by
    rcases Bt k i with h|h
    · exact hno k g hg h
    · have:k=i:=by omega
      subst this
      rw [hf] at hg;cases hg;exact h0
   rw [hF] at hnx
   clear hF
   obtain ⟨nm,ps,o,n,u,ns,ks,al⟩:=f
   simp only [FE.enc,Ex.A4,feA,AG,AQ] at he hfn hrp hbd hgo2 hnx
   by_cases hki2:k < i
   · have hd:decide ((k:Int) < (i:Int))=true:=by simpa using hki2
     rw [if_pos (.inl hki2)] at hgo2
     simp only at hgo2
     rw [hgo2]
     (repeat' (first|refine Run.ct rfl ?_|((first|refine Run.reg mixed ?_|refine Run.AE ?_|refine Run.Fp F7 (AF.le_refl _) ?_|refine AI.det (hfn) ?_)<;>try simp -implicitDefEqProofs only [Ac hlt,he,hd,go_sem])|fail))
   have hd:decide ((k:Int) < (i:Int))=false:=by simpa using hki2
   cases htw:CA ps with
   |true=>
    rw [htw] at hgo2 hrp
    rw [if_pos (.inr rfl)] at hgo2
    simp only at hgo2
    rw [hgo2]
    (repeat' (first|refine Run.ct rfl ?_|((first|refine Run.reg mixed ?_|refine Run.AE ?_|refine Run.Fp F7 (AF.le_refl _) ?_|refine AI.det (hfn) ?_|refine AI.det (hrp) ?_)<;>try simp -implicitDefEqProofs only [Ac hlt,he,hd,go_sem])|fail))
   |false=>
   rw [htw] at hgo2 hrp hnx
   rw [if_neg (by simp;omega)] at hgo2 hnx
   cases her:EL (E0 fs dt) (Ba (.mk o n u ns ks al) ps) with
   |some y=>
    obtain ⟨q,c⟩:=y
    rw [her] at hgo2 hbd
    simp only at hgo2 hbd
    rw [hgo2]
    have hcn:(c != 0)=true:=by simpa using Qi her
    (repeat' (first|refine Run.ct rfl ?_|((first|refine Run.reg mixed ?_|refine Run.AE ?_|refine Run.Fp F7 (AF.le_refl _) ?_|refine AI.det (hfn) ?_|refine AI.det (hrp) ?_|refine AI.det (hbd) ?_)<;>try simp -implicitDefEqProofs only [Ac hlt,he,hd,hcn,go_sem])|fail))
   |none=>
    rw [her] at hbd hnx
    simp only at hbd hnx
    (repeat' (first|refine Run.ct rfl ?_|((first|refine Run.reg mixed ?_|refine Run.AE ?_|refine AI.det (hfn) ?_|refine AI.det (hrp) ?_|refine AI.det (hbd) ?_)<;>try simp -implicitDefEqProofs only [Ac hlt,he,hd,h00,hw1,go_sem])|fail))
    exact ih (i+1) ⟨by omega,hnx trivial⟩ (by omega)
 · have hall:Fx fs dt 0 fs=(0,0,0):=by
    have:=Lu fs dt [] fs 0 (fun k g hg=>by rw [Am];exact hno k g hg (by have:=(AR.1 hg).1;omega))
    rw [Ao] at this
    rw [this];rfl
   rw [hall]
   (repeat' (first|refine Run.ct rfl ?_|((first|refine Run.reg mixed ?_|refine Run.AE ?_|refine Run.Fp F7 (AF.le_refl _) ?_)<;>try simp -implicitDefEqProofs only [Bi hlt,go_sem])|fail))
end Go.Ab
