/- The reference's texts of declarations and programs. The law SyntaxFormats over abstract values. The given statement SyntaxFormats, as a card: for every input the law returns true. Conditions: none. -/
import Derived.Test.YtifplkldbbcldaaGreatDoorXCdQr
set_option linter.unusedSimpArgs false
set_option linter.unusedVariables false
set_option maxRecDepth 4000
set_option maxHeartbeats 8000000
open List renaming map_cons→AG,append_assoc→AS,getElem?_cons_zero→A5,getElem?_cons_succ→Ae,take_succ_cons→Ck,mem_of_getElem?→Aa,length_append→AA,all_eq_true→A4,length_cons→AB,length_nil→AD,length_map→AE,map_nil→AH,take_of_length_le→A6,length_pos_iff→Aj,take_length→Li,length→I8,cons_append→A0,nil_append→A1,mem_cons→CW
open Option.some renaming injEq→AR,inj→JF
open Nat renaming mul_le_mul_right→Ah,zero_add→B9,succ_mul→Iy,le_trans→BC
open Bool renaming and_eq_true→AM,false_eq_true→AU
open And renaming intro→Cg
namespace Go.Ab
open Go.Proofs
def VW:List CE→Nat→Str
 |[],_=>[]
 |c::l,k=>(if k=0 then [32,61,32] else [32,124,32])++fmtC c++VW l (k+1)
theorem tK:∀(l:List CE) (k:Nat),0 < k→VW l k=Lib.joinTail [32,124,32] (l.map fmtC)
 |[],k,_=>rfl
 |c::l,k,h=>by
  rw [VW,if_neg (by omega),tK l (k+1) (by omega)]
  simp [Lib.joinTail]
theorem tL {l:List CE} (h:l≠[]):VW l 0=[32,61,32]++Lib.join (l.map fmtC) [32,124,32]:=by
 cases l with
 |nil=>exact absurd rfl h
 |cons c l=>
  rw [VW,if_pos rfl,tK l 1 (by omega),AG,Lib.join_cons,AS]
theorem pU {l:List CE} {k:Nat} {c:CE} (h:l[k]?=some c):∀j,VW (l.take (k+1)) j=VW (l.take k) j++((if j+k=0 then [32,61,32] else [32,124,32])++fmtC c):=by
 induction l generalizing k with
 |nil=>cases h
 |cons x l ih=>
  intro j
  cases k with
  |zero=>
   simp only [A5,AR] at h
   subst h
   simp [VW]
  |succ k=>
   simp only [Ae] at h
   rw [Ck,Ck,VW,VW,ih h (j+1),show j+1+k=j+(k+1) by omega]
   simp only [AS]
set_option maxRecDepth 4000 in
set_option maxHeartbeats 4000000 in
theorem vZ (Q:AV→AN→Prop) (rest:List CI) (ds:List DE) (fs:List FE) (nm:Str) (vs:List Str) (cs:List CE) (s0:Str) (i:Nat) (σ:AN)
 (hc8:cs.length≤8) (hcs:∀c∈cs,QC c=true∧∀t∈c.args,t.size≤100000) (hs0:s0.length≤20000000000)
 (hfin:∀τ,σ.le τ→Run H2 Q rest (put 1 (.lp 1 0) (put 3 (.d (.str (s0++VW cs 0))) (put 4 (.d (.int .i64 (i:Nat))) (put 5 (.lp 5 0) (put 6 (.d (.int .i64 (cs.length:Nat))) (put 45 (.d (.bool false)) U)))))) (BZ 1 [.d (.sl (ds.map DE.enc)),.d (.sl (fs.map FE.enc))] (BZ 5 [.d (.str nm),.d (.sl (vs.map BM)),.d (.sl (cs.map CE.enc))] E)) τ):
 Run H2 Q (.code (.loop Rx)::.blk 2::rest) (put 1 (.lp 1 0) (put 3 (.d (.str s0)) (put 4 (.d (.int .i64 (i:Nat))) (put 5 (.lp 5 0) (put 6 (.d (.int .i64 0)) U))))) (BZ 1 [.d (.sl (ds.map DE.enc)),.d (.sl (fs.map FE.enc))] (BZ 5 [.d (.str nm),.d (.sl (vs.map BM)),.d (.sl (cs.map CE.enc))] E)) σ:=by
 refine Run.B3 ?_
 refine Run.B6 ((fun (a1:AV) (a4:AV) (a5:AV)=>fun (y:Nat×Str×AN)=>put 1 a1 (put 3 (.d (.str y.2.1)) (put 4 a4 (put 5 a5 (put 6 (.d (.int .i64 y.1)) U))))) _ _ _) (fun _=>BZ 1 [.d (.sl (ds.map DE.enc)),.d (.sl (fs.map FE.enc))] (BZ 5 [.d (.str nm),.d (.sl (vs.map BM)),.d (.sl (cs.map CE.enc))] E)) (fun y=>y.2.2) (fun y=>y.1≤cs.length∧y.2.1=s0++VW (cs.take y.1) 0∧y.2.1.length≤s0.length+y.1 * 50000000∧σ.le y.2.2) (fun y=>cs.length - y.1) ?_ (0,s0,σ) ⟨by simp,by simp [VW],by simp,AN.le_refl _⟩
 rintro ⟨k,s1,τ⟩ ⟨hk,hs1,hl1,hle⟩ ih
 simp only at hk hs1 hl1 hle
 have hk8:k * 50000000≤8 * 50000000:=Ah _ (by omega)
 by_cases hlt:k < cs.length
 · obtain ⟨x,hx⟩:=Bu hlt
   have he:=Bi (enc:=CE.enc) hx
   have hxm:=Aa hx
   obtain ⟨hcb,hcz⟩:=hcs x hxm
   have hlc:=cF hcb hcz
   have htk:=pU hx 0
   rw [B9] at htk
   have hw1:IntKind.i64.wrap ((k:Int)+1)=((k+1:Nat):Int):=by rw [Av (by omega) (by omega)];omega
   have hih:=fun s2 τ2 (h:s2=s1++((if k=0 then [32,61,32] else [32,124,32])++fmtC x)) (h2:σ.le τ2)=>ih (k+1,s2,τ2) ⟨by simp only;omega,by simp only;rw [htk,h,hs1];simp only [AS],by
    simp only
    rw [h,AA,AA,Iy]
    have:(if k=0 then ([32,61,32]:Str) else [32,124,32]).length=3:=by split<;>rfl
    omega,h2⟩ (by simp only;omega)
   simp only at hih
   clear ih htk
   obtain ⟨cn,l⟩:=x
   simp only [CE.enc] at he
   simp only [QC,AM,decide_eq_true_eq,A4] at hcb
   simp only at hcz
   have hcn:=J7 hcb.1.1
   have hfc:fmtC ⟨cn,l⟩=cn++Dc (l.map Au):=rfl
   have hjlt:=E2 (sep:=[44,32]) (by decide) (l.map Au)
   have hol:(Dc (l.map Au)).length≤40000000:=by rw [hfc,AA] at hlc;omega
   have hjs:(Lib.join (l.map Au) [44,32]).length≤40000000:=by
    by_cases hl0:l=[]
    · subst hl0;simp [Lib.join_nil]
    · have:Dc (l.map Au)=40::(Lib.join (l.map Au) [44,32]++[41]):=OL (by simpa using hl0)
      rw [this] at hol
      simp only [AB,AA] at hol;omega
   rw [hfc] at hih
   have hl2:s1.length≤20400000000:=by omega
   clear hfc hlc hl1 hk8
   -- the sign and the name
   by_cases hk0:k=0
   · subst hk0
     simp only [if_true] at hih
     have hz0:(((0:Nat):Int)==0)=true:=rfl
     (repeat' (first|refine Run.ct rfl ?_|((first|refine Run.reg mixed ?_|refine Run.AJ ?_|(refine XPv.cat (by (try simp only [AA,AB,AD]);omega) ?_))<;>try simp -implicitDefEqProofs only [BQ hlt,he,AE,hz0,go_sem])|fail))
     refine Run.B3 ?_
     refine Run.B6 ((fun (a1:AV) (a3:AV) (a4:AV) (a5:AV) (a6:AV)=>fun (y:Nat×AV×AN)=>put 1 a1 (put 3 a3 (put 4 a4 (put 5 a5 (put 6 a6 (put 7 (y.2.1) (put 8 (.d (.int .i64 y.1)) U))))))) _ _ _ _ _) (fun _=>BZ 1 [.d (.sl (ds.map DE.enc)),.d (.sl (fs.map FE.enc))] (BZ 5 [.d (.str nm),.d (.sl (vs.map BM)),.d (.sl (cs.map CE.enc))] E)) (fun y=>y.2.2) (fun y=>y.1≤l.length∧D8 τ 9 1 (((l.take y.1).map Au).map BM) y.2.1 y.2.2) (fun y=>l.length - y.1) ?_ (0,.AX,τ) ⟨by simp,D8.nil _ _ _⟩
     rintro ⟨j,v,τ1⟩ ⟨hj,ho⟩ ih2
     simp only at hj ho
     by_cases hlj:j < l.length
     · obtain ⟨ty,hty⟩:=Bu hlj
       have he2:=Bi (enc:=TE.enc) hty
       have hw2:IntKind.i64.wrap ((j:Int)+1)=((j+1:Nat):Int):=by rw [Av (by omega) (by omega)];omega
       have htm:=Aa hty
       have hct:=N0 40 ty (hcb.2 ty htm) (hcz ty htm) τ1
       have hnx:((l.take (j+1)).map Au).map BM=((l.take j).map Au).map BM++[[.str (Au ty)]]:=by
        rw [E3 hty];simp [BM]
       obtain ⟨tk,tn,tl⟩:=ty
       simp only [teA,TE.A3,AG,AH] at he2 hct
       (repeat' (first|refine Run.ct rfl ?_|((first|refine Run.reg mixed ?_|refine Run.AJ ?_|(refine JH.own ho rfl (by simp) (by simp;omega) (by decide) (fun v3 σ3 ho3 hbk=>?_))|refine AI.det (hct) ?_)<;>try simp -implicitDefEqProofs only [BQ hlj,he,he2,hw2,AE,ho.cell,ho.cells,ho.As,ho.BJ,go_sem])|fail))
       (repeat' (first|refine Run.ct rfl ?_|((first|refine Run.reg mixed ?_|refine Run.AJ ?_)<;>try simp -implicitDefEqProofs only [hw2,ho3.cell,ho3.cells,ho3.As,ho3.BJ,go_sem])|fail))
       exact ih2 (j+1,v3,σ3) ⟨by simp only;omega,by simp only;rw [hnx];exact ho3⟩ (by simp only;omega)
     · rw [A6 (by omega)] at ho
       clear ih2
       have hol2:=ho.len
       have hji:=Oa (σ:=τ1) ho.plain (by omega)
       have hle1:=AN.le_trans hle ho.le
       by_cases hl0:l=[]
       · subst hl0
         have ho1:Dc (([]:List TE).map Au)=[]:=rfl
         rw [ho1] at hih
         (repeat' (first|refine Run.ct rfl ?_|((first|refine Run.reg mixed ?_|refine Run.AJ ?_|(refine XPv.cat (by (try simp only [AA,AB,AD]);omega) ?_))<;>try simp -implicitDefEqProofs only [DA hlj,he,hw1,hol2,AE,AD,AH,gt0,decide_eq_false (Nat.lt_irrefl 0),ho.cell,ho.cells,ho.As,ho.BJ,go_sem])|(refine ⟨fun h=>?_,fun h=>?_⟩<;>first|(cases h;done)|try simp only [h])|fail))
         exact hih _ _ (by simp) hle1
       · have ho1:Dc (l.map Au)=40::(Lib.join (l.map Au) [44,32]++[41]):=OL (by simpa using hl0)
         rw [ho1] at hih
         have hlp:0 < l.length:=Aj.2 hl0
         generalize Lib.join (l.map Au) [44,32]=J at *
         (repeat' (first|refine Run.ct rfl ?_|((first|refine Run.reg mixed ?_|refine Run.AJ ?_|(refine XPv.cat (by (try simp only [AA,AB,AD]);omega) ?_)|(refine AI.det hji ?_ (by simp [ho.As])))<;>try simp -implicitDefEqProofs only [DA hlj,he,hw1,hol2,AE,gt0,decide_eq_true hlp,ho.cell,ho.cells,ho.As,ho.BJ,go_sem])|fail))
         exact hih _ _ (by simp) hle1
   · rw [if_neg hk0] at hih
     have hz0:(((k:Nat):Int)==0)=false:=Bt (by omega)
     (repeat' (first|refine Run.ct rfl ?_|((first|refine Run.reg mixed ?_|refine Run.AJ ?_|(refine XPv.cat (by (try simp only [AA,AB,AD]);omega) ?_))<;>try simp -implicitDefEqProofs only [BQ hlt,he,AE,hz0,go_sem])|fail))
     refine Run.B3 ?_
     refine Run.B6 ((fun (a1:AV) (a3:AV) (a4:AV) (a5:AV) (a6:AV)=>fun (y:Nat×AV×AN)=>put 1 a1 (put 3 a3 (put 4 a4 (put 5 a5 (put 6 a6 (put 7 (y.2.1) (put 8 (.d (.int .i64 y.1)) U))))))) _ _ _ _ _) (fun _=>BZ 1 [.d (.sl (ds.map DE.enc)),.d (.sl (fs.map FE.enc))] (BZ 5 [.d (.str nm),.d (.sl (vs.map BM)),.d (.sl (cs.map CE.enc))] E)) (fun y=>y.2.2) (fun y=>y.1≤l.length∧D8 τ 9 1 (((l.take y.1).map Au).map BM) y.2.1 y.2.2) (fun y=>l.length - y.1) ?_ (0,.AX,τ) ⟨by simp,D8.nil _ _ _⟩
     rintro ⟨j,v,τ1⟩ ⟨hj,ho⟩ ih2
     simp only at hj ho
     by_cases hlj:j < l.length
     · obtain ⟨ty,hty⟩:=Bu hlj
       have he2:=Bi (enc:=TE.enc) hty
       have hw2:IntKind.i64.wrap ((j:Int)+1)=((j+1:Nat):Int):=by rw [Av (by omega) (by omega)];omega
       have htm:=Aa hty
       have hct:=N0 40 ty (hcb.2 ty htm) (hcz ty htm) τ1
       have hnx:((l.take (j+1)).map Au).map BM=((l.take j).map Au).map BM++[[.str (Au ty)]]:=by
        rw [E3 hty];simp [BM]
       obtain ⟨tk,tn,tl⟩:=ty
       simp only [teA,TE.A3,AG,AH] at he2 hct
       (repeat' (first|refine Run.ct rfl ?_|((first|refine Run.reg mixed ?_|refine Run.AJ ?_|(refine JH.own ho rfl (by simp) (by simp;omega) (by decide) (fun v3 σ3 ho3 hbk=>?_))|refine AI.det (hct) ?_)<;>try simp -implicitDefEqProofs only [BQ hlj,he,he2,hw2,AE,ho.cell,ho.cells,ho.As,ho.BJ,go_sem])|fail))
       (repeat' (first|refine Run.ct rfl ?_|((first|refine Run.reg mixed ?_|refine Run.AJ ?_)<;>try simp -implicitDefEqProofs only [hw2,ho3.cell,ho3.cells,ho3.As,ho3.BJ,go_sem])|fail))
       exact ih2 (j+1,v3,σ3) ⟨by simp only;omega,by simp only;rw [hnx];exact ho3⟩ (by simp only;omega)
     · rw [A6 (by omega)] at ho
       clear ih2
       have hol2:=ho.len
       have hji:=Oa (σ:=τ1) ho.plain (by omega)
       have hle1:=AN.le_trans hle ho.le
       by_cases hl0:l=[]
       · subst hl0
         have ho1:Dc (([]:List TE).map Au)=[]:=rfl
         rw [ho1] at hih
         (repeat' (first|refine Run.ct rfl ?_|((first|refine Run.reg mixed ?_|refine Run.AJ ?_|(refine XPv.cat (by (try simp only [AA,AB,AD]);omega) ?_))<;>try simp -implicitDefEqProofs only [DA hlj,he,hw1,hol2,AE,AD,AH,gt0,decide_eq_false (Nat.lt_irrefl 0),ho.cell,ho.cells,ho.As,ho.BJ,go_sem])|(refine ⟨fun h=>?_,fun h=>?_⟩<;>first|(cases h;done)|try simp only [h])|fail))
         exact hih _ _ (by simp) hle1
       · have ho1:Dc (l.map Au)=40::(Lib.join (l.map Au) [44,32]++[41]):=OL (by simpa using hl0)
         rw [ho1] at hih
         have hlp:0 < l.length:=Aj.2 hl0
         generalize Lib.join (l.map Au) [44,32]=J at *
         (repeat' (first|refine Run.ct rfl ?_|((first|refine Run.reg mixed ?_|refine Run.AJ ?_|(refine XPv.cat (by (try simp only [AA,AB,AD]);omega) ?_)|(refine AI.det hji ?_ (by simp [ho.As])))<;>try simp -implicitDefEqProofs only [DA hlj,he,hw1,hol2,AE,gt0,decide_eq_true hlp,ho.cell,ho.cells,ho.As,ho.BJ,go_sem])|fail))
         exact hih _ _ (by simp) hle1
 · obtain rfl:k=cs.length:=by omega
   rw [Li] at hs1
   subst hs1
   (repeat' (first|refine Run.ct rfl ?_|((first|refine Run.reg mixed ?_|refine Run.AJ ?_)<;>try simp -implicitDefEqProofs only [DA hlt,AE,go_sem])|fail))
   exact hfin τ hle
theorem eV (p:Pg) (σ:AN) (hs:∀d∈p.data,∀c∈d.cons,∀t∈c.args,t.size≤100000):
 AQ Tryz.prog 18 [pgA p] σ (fun v σ'=>v= .d (.str (if Cq p then V1 p else []))∧σ'=σ):=by
 have hv:=iU p σ (fun d hd c hc t ht=>BC (hs d hd c hc t ht) (by decide))
 refine gR (by simp) ?_
 rw [Ax]
 cases hval:Cq p with
 |false=>
  rw [hval] at hv
  obtain ⟨ds,fs⟩:=p
  simp only [pgA,Pg.enc,AG,AH,AU,if_false] at hv ⊢
  (repeat' (first|refine Run.ct rfl ?_|((first|refine Run.reg mixed ?_|refine Run.AJ ?_|(refine Run.A9 SJ (σ2:=σ) (AN.le_refl _) ?_)|refine AI.det (hv) ?_)<;>try simp -implicitDefEqProofs only [go_sem])|fail))
 |true=>
 rw [hval] at hv
 have hlen:=nS hval hs
 obtain ⟨⟨hd12,hda⟩,hf24,hfa⟩:=TJ hval
 obtain ⟨ds,fs⟩:=p
 simp only [pgA,Pg.enc,AG,AH,if_true] at hv hd12 hda hf24 hfa hs ⊢
 rw [V1,AA] at hlen
 simp only at hlen
 (repeat' (first|refine Run.ct rfl ?_|((first|refine Run.reg mixed ?_|refine Run.AJ ?_|refine AI.det (hv) ?_)<;>try simp -implicitDefEqProofs only [AE,go_sem])|fail))
 refine Run.B3 ?_
 refine Run.B6 ((fun (a1:AV)=>fun (y:Nat×Str×AN)=>put 1 a1 (put 3 (.d (.str y.2.1)) (put 4 (.d (.int .i64 y.1)) U))) _) (fun _=>BZ 1 [.d (.sl (ds.map DE.enc)),.d (.sl (fs.map FE.enc))] E) (fun y=>y.2.2)
  (fun y=>y.1≤ds.length∧y.2.1=((ds.take y.1).map M9).flatten∧σ.le y.2.2) (fun y=>ds.length - y.1) ?_ (0,[],σ) ⟨by simp,by simp,AN.le_refl _⟩
 rintro ⟨k,s1,τ⟩ ⟨hk,hs1,hle⟩ ih
 simp only at hk hs1 hle
 by_cases hlt:k < ds.length
 · obtain ⟨d,hd⟩:=Bu hlt
   have he:=Bi (enc:=DE.enc) hd
   have hdm:=Aa hd
   have hdb:=hda d hdm
   have hdz:=hs d hdm
   have hw1:IntKind.i64.wrap ((k:Int)+1)=((k+1:Nat):Int):=by rw [Av (by omega) (by omega)];omega
   have htf:=T0 (f:=M9) hd
   have hle1:=Kj M9 ds k
   have hle2:=Kj M9 ds (k+1)
   rw [htf,AA] at hle2
   rw [← hs1] at hle1 htf hle2
   have hih:=fun s2 τ2 (h:s2=s1++M9 d) (h2:σ.le τ2)=>ih (k+1,s2,τ2) ⟨by simp only;omega,by simp only;rw [h,htf],h2⟩ (by simp only;omega)
   simp only at hih
   clear ih htf hval hv
   obtain ⟨nm,vs,cs⟩:=d
   simp only [G8,AM,decide_eq_true_eq,A4] at hdb
   obtain ⟨⟨⟨⟨⟨h1,h2⟩,h3⟩,h4⟩,h5⟩,h6⟩:=hdb
   have hfd:M9 ⟨nm,vs,cs⟩=[100,97,116,97,32]++(nm++(Dc vs++(VW cs 0++[59,10]))):=by
    rw [tL (fun e=>by subst e;simp at h4)]
    show [100,97,116,97,32]++(nm++(Dc vs++([32,61,32]++(Lib.join (cs.map fmtC) [32,124,32]++[59,10]))))=_
    simp only [AS]
   rw [hfd] at hih hle2
   clear hfd
   simp only [AA,AB,AD] at hle2
   have hnl:=J7 h1
   have hjv:=E2 (sep:=[44,32]) (by decide) vs
   have g3:JL vs≤vs.length * 27:=Uz (fun x hx=>Fl (h3 x hx))
   have g4:vs.length * 27≤6 * 27:=Ah _ h2
   have hji:=HZ vs τ (by omega)
   simp only [DE.enc] at he
   by_cases hv0:vs=[]
   · subst hv0
     have ho1:Dc ([]:List Str)=[]:=rfl
     rw [ho1] at hih
     (repeat' (first|refine Run.ct rfl ?_|((first|refine Run.reg mixed ?_|refine Run.AJ ?_|(refine XPv.cat (by (try simp only [AA,AB,AD]);omega) ?_))<;>try simp -implicitDefEqProofs only [BQ hlt,he,AE,AD,AH,gt0,decide_eq_false (Nat.lt_irrefl 0),go_sem])|fail))
     refine vZ _ _ ds fs nm [] cs _ k τ (by simpa using h5) (fun c hc=>⟨h6 c hc,hdz c hc⟩) (by (try simp only [AA,AB,AD]);omega) (fun τ' hle'=>?_)
     (repeat' (first|refine Run.ct rfl ?_|((first|refine Run.reg mixed ?_|refine Run.AJ ?_|(refine XPv.cat (by (try simp only [AA,AB,AD]);omega) ?_))<;>try simp -implicitDefEqProofs only [hw1,go_sem])|fail))
     exact hih _ _ (by simp) (AN.le_trans hle hle')
   · have ho1:Dc vs=40::(Lib.join vs [44,32]++[41]):=OL hv0
     have hlp:0 < vs.length:=Aj.2 hv0
     rw [ho1] at hih
     generalize Lib.join vs [44,32]=J at *
     (repeat' (first|refine Run.ct rfl ?_|((first|refine Run.reg mixed ?_|refine Run.AJ ?_|(refine XPv.cat (by (try simp only [AA,AB,AD]);omega) ?_)|refine AI.det (hji) ?_)<;>try simp -implicitDefEqProofs only [BQ hlt,he,AE,gt0,decide_eq_true hlp,go_sem])|fail))
     refine vZ _ _ ds fs nm vs cs _ k τ (by simpa using h5) (fun c hc=>⟨h6 c hc,hdz c hc⟩) (by (try simp only [AA,AB,AD]);omega) (fun τ' hle'=>?_)
     (repeat' (first|refine Run.ct rfl ?_|((first|refine Run.reg mixed ?_|refine Run.AJ ?_|(refine XPv.cat (by (try simp only [AA,AB,AD]);omega) ?_))<;>try simp -implicitDefEqProofs only [hw1,go_sem])|fail))
     exact hih _ _ (by simp) (AN.le_trans hle hle')
 · obtain rfl:k=ds.length:=by omega
   rw [Li] at hs1
   subst hs1
   clear ih hs
   (repeat' (first|refine Run.ct rfl ?_|((first|refine Run.reg mixed ?_|refine Run.AJ ?_)<;>try simp -implicitDefEqProofs only [DA hlt,AE,go_sem])|fail))
   refine Run.B3 ?_
   refine Run.B6 ((fun (a1:AV)=>fun (y:Nat×Str)=>put 1 a1 (put 3 (.d (.str y.2)) (put 9 (.d (.int .i64 y.1)) U))) _) (fun _=>BZ 1 [.d (.sl (ds.map DE.enc)),.d (.sl (fs.map FE.enc))] E) (fun _=>τ)
    (fun y=>y.1≤fs.length∧y.2=(ds.map M9).flatten++((fs.take y.1).map Oy).flatten) (fun y=>fs.length - y.1) ?_ (0,(ds.map M9).flatten) ⟨by simp,by simp⟩
   rintro ⟨k,s1⟩ ⟨hk,hs1⟩ ih
   simp only at hk hs1
   by_cases hlt:k < fs.length
   · obtain ⟨f,hd⟩:=Bu hlt
     have he:=Bi (enc:=FE.enc) hd
     have hfm:=Aa hd
     obtain ⟨hh,hnb,hsz⟩:=hfa f hfm
     have hw1:IntKind.i64.wrap ((k:Int)+1)=((k+1:Nat):Int):=by rw [Av (by omega) (by omega)];omega
     have htf:=T0 (f:=Oy) hd
     have hle1:=Kj Oy fs k
     have hle2:=Kj Oy fs (k+1)
     rw [htf,AA] at hle2
     have hsl:=congrArg I8 hs1
     rw [AA] at hsl
     have hih:=fun s2 (h:s2=s1++Oy f)=>ih (k+1,s2) ⟨by simp only;omega,by simp only;rw [h,htf,hs1,AS]⟩ (by simp only;omega)
     simp only at hih
     have htx:=Uo 600 f.body hsz (by omega) hnb τ
     have hel:=V9 f.body hnb
     clear ih htf hval hv
     obtain ⟨nm,ps,b⟩:=f
     have hff:Oy ⟨nm,ps,b⟩=[102,117,110,32]++(nm++([40]++(Lib.join ps [44,32]++([41,32,61,32]++(Af b++[59,10]))))):=by
      show [102,117,110,32]++(nm++(FU ps++([32,61,32]++(Af b++[59,10]))))=_
      simp [FU,GB,cms]
     simp only [MW,AM,decide_eq_true_eq,A4] at hh
     have hnl:=Fl hh.1.1
     have hjv:=E2 (sep:=[44,32]) (by decide) ps
     have g3:JL ps≤ps.length * 27:=Uz (fun x hx=>Fl (hh.2 x hx))
     have g4:ps.length * 27≤6 * 27:=Ah _ hh.1.2
     have hji:=HZ ps τ (by omega)
     rw [hff] at hih hle2
     simp only at htx hel hsz
     clear hff
     generalize Lib.join ps [44,32]=J at *
     generalize Af b=tb at *
     obtain ⟨o1,n1,u1,ns1,ks1,al1⟩:=b
     simp only [FE.enc,exA,Ex.A3,AG,AH,A0,A1] at he htx
     (repeat' (first|refine Run.ct rfl ?_|((first|refine Run.reg mixed ?_|refine Run.AJ ?_|(refine XPv.cat (by (try simp only [AA,AB,AD]);omega) ?_)|(refine Run.FA mixed ?_)|(with_reducible refine Cg ?_ ?_)|refine AI.det (hji) ?_|refine AI.det (htx) ?_)<;>try simp -implicitDefEqProofs only [BQ hlt,he,hw1,AE,go_sem])|fail))
     all_goals exact hih _ (by simp)
   · rw [A6 (by omega)] at hs1
     subst hs1
     have hfp:V1 ⟨ds,fs⟩=(ds.map M9).flatten++(fs.map Oy).flatten:=rfl
     rw [hfp]
     (repeat' (first|refine Run.ct rfl ?_|((first|refine Run.reg mixed ?_|refine Run.AJ ?_|(refine Run.A9 SJ (σ2:=σ) hle ?_))<;>try simp -implicitDefEqProofs only [DA hlt,AE,go_sem])|fail))
end Go.Ab
namespace Go.Ab
open Go.Proofs
theorem Vw (p:Pg) (σ:AN) (hg:Xt σ) (hp:σ.gt Sk=some Un):AQ Tryz.prog 4 [pgA p] σ (fun v σ'=>v= .d (.bool true)∧σ'=σ):=by
 have hk:=eD p σ
 have haw:=Yz σ hg hp
 refine RQ (by simp) ?_
 rw [Ax]
 have hf:=Pl p σ hp
 have hr:=eV p σ
 obtain ⟨ds,fs⟩:=p
 simp only [pgA,Pg.enc,AG,AH] at hk hf hr ⊢
 (repeat' (first|refine Run.ct rfl ?_|((first|refine Run.reg mixed ?_|refine Run.AJ ?_|(refine AI.mk rfl hk ?_;rintro _ σ ⟨b,⟨rfl,rfl⟩,hb⟩;cases b)|(refine Run.A9 Gq (AN.le_refl _) ?_))<;>try simp -implicitDefEqProofs only [go_sem])|fail))
 have hsm:=hb rfl
 have hsd:∀d∈ds,∀c∈d.cons,∀t∈c.args,t.size≤100000:=fun d hd c hc t ht=>by have:=((hsm.1.2 d hd).2.2.2 c hc).2.2 t ht;omega
 have hf':=hf hsd
 have hr':=hr hsd
 generalize (if Cq ⟨ds,fs⟩=true then V1 ⟨ds,fs⟩ else [])=tx at hf' hr'
 (repeat' (first|refine Run.ct rfl ?_|((first|refine Run.reg mixed ?_|refine Run.AJ ?_|refine Run.A9 Gq (AN.le_refl _) ?_|refine AI.det (hf') ?_|refine AI.det (hr') ?_|refine AI.det (haw) ?_)<;>try simp -implicitDefEqProofs only [EG,beq_self_eq_true,go_sem])|fail))
end Go.Ab
namespace Go.Ab
open Go.Proofs
theorem Us (te:TypeId) (pe:Value) (av:List AV) (h:Xs Tryz.prog [25] av):AQ Tryz.prog 4 av (MH (gtT te pe)) (fun v _=>v= .d (.bool true)):=by
 obtain ⟨x0,rfl⟩:=w9 h
 exact (Vw x0 (MH (gtT te pe)) (xP te pe) (xQ te pe)).mono (fun _ _ h=>h.1)
end Go.Ab
namespace Go.Proofs.YtifplkldbbcldaaGreatDoor
open Go.ChangeShapes Go.WideShapes Go.ChangeAt Go.RowKit
set_option maxRecDepth 100000 in
theorem TA (os:Os) (started:os.Started) (H:Type) (enc:TypeId×Value→H):
 ReturnsInHanded {} Tryz.checked os 4 .any (fun w args=>(Rows.syntaxFormatsSpec.pre enc Tryz.prog Tryz.f4 [] false w args∧laidMetH Tryz.prog hY w)∧sizedMet enc Tryz.prog Tryz.f4 (OpenSpec.ofChange Rows.syntaxFormatsSpec) false w args)
  (Rows.syntaxFormatsSpec.post enc Tryz.prog Tryz.f4 false true false false):=by
 refine returnsInHanded_of_change_and (C:=Tryz.checked) (X:=fun w _=>laidMetH Tryz.prog hY w) (fun _ _ _ hh h=>h.of_heap hh) Tryz.own started (by kernel_rfl) Tryz.func4
  (ChangeSpec.witness_shaped (enc:=enc) (C:=Tryz.checked) (os:=os) (X:=fun w _=>laidMetH Tryz.prog hY w) false (World.doorLaid Tryz.prog 400 os) #[.agg #[.slice none 0 0,.slice none 0 0]] 8 rfl (World.shaped_of_RefB (by kernel_rfl) (by kernel_rfl)) (by kernel_rfl) (by kernel_rfl) (by kernel_rfl) (tO os _)) ?_
 intro W base args ds gs before hval hW _ _ hL _
 obtain ⟨te,pe,hT⟩:=xR hL
 refine Go.Ab.aW (P:=Tryz.prog) (gt:=Go.Ab.gtT te pe) [25,22,61,9,40,59,72,70,75,3,23,66,44,2,41,42,112] Tryz.laidOut (by kernel_rfl) ?_ ?_ (tb:=4) (by kernel_rfl) Tryz.underlying4 rfl ?_ ?_ W hT base args ds gs before hval hW
 · rw [Tryz.params4];simp
 · rw [Tryz.params4]
   intro t ht
   simp only [CW,List.not_mem_nil,or_false] at ht
   subst ht
   exact ⟨by kernel_rfl,of_decide_eq_true (by kernel_rfl)⟩
 · rw [Tryz.params4]
   intro ds hd
   match ds,hd with
   |[d0],_=>rfl
 · rw [Tryz.params4]
   exact Go.Ab.Us te pe
theorem Vt:Rows.SyntaxFormatsSaid:=
 OpenClaim.holds_of_wide 4 Tryz.f4 rfl rfl rfl rfl rfl rfl rfl ⟨rfl,rfl,rfl,rfl,rfl⟩ rfl rfl rfl rfl rfl (by kernel_rfl) Tryz.func4 (by kernel_rfl)
  (of_decide_eq_true (by kernel_rfl)) (by unfold Func.isWrapper;first|(rw [if_pos (by decide+kernel)];kernel_rfl)|(rw [if_neg (by decide+kernel)];exact ⟨rfl,rfl⟩))
  (fun os started H enc _=>TA os started H enc)
theorem syntaxFormats_holds:Rows.SyntaxFormatsCardSaid:=
 Claim7.holds_tied_plain_at .later [] [.data,.data,.data,.sentinel,.sentinel] true (true,"21a277a3e8a610eced9e93bcce68d99d4ad37844a2772ead4278e0ed35489f0c") true
  Vt (fun _ h=>by cases h) (by kernel_rfl) (fun _ h=>by cases h) syntaxFormats_row_tie rfl ⟨rfl,rfl⟩ (by kernel_rfl) rfl
  (fun f fn hf hfn=>by
    obtain rfl:f=4:=JF ((show Tryz.prog.funcNamed "amortcost/amortcostlaw04.SyntaxFormats"=some 4 by kernel_rfl).symm.trans hf)|>.symm
    obtain rfl:fn=Tryz.f4:=(JF (Tryz.func4.symm.trans hfn)).symm
    exact ⟨by kernel_rfl,fun j t ht=>by
     rw [Tryz.params4] at ht
     have hm:t∈[25]:=by simpa using Array.mem_of_getElem? ht
     have hall:([25].all fun u=>!Tryz.prog.wantsStandIn u)=true:=by kernel_rfl
     exact (show Tryz.prog.wantsStandIn t=false by simpa using A4.1 hall t hm)⟩)
  (by kernel_rfl)
end Go.Proofs.YtifplkldbbcldaaGreatDoor
#print axioms Go.Proofs.YtifplkldbbcldaaGreatDoor.syntaxFormats_holds
